/-
  What a snippet's parts come to: memory, values, rows.
-/
import Derived.Test.YtmllebdamdnhoaaGreatAao
set_option linter.unusedSimpArgs false
set_option linter.unusedVariables false
namespace Go.Proofs.YtmllebdamdnhoaaGreat
open Go Go.Gm
namespace Xr
structure XV (n:Int) (q:List qx):Prop where
 ne:q≠[]
 Wg:q.length<=64
 XI:JO n q
 T4:PQ q
theorem a8(n:Int)(l:Sl qx)(hl:l.l.length<2^60):qG (hU n l) (fun v=>v.2=0->XV n v.1.l):=by
 obtain⟨q,c,g1,g2⟩:=TH n l hl;refine⟨(q,c),g1,fun hc=>?_⟩;rcases g2 with ⟨_,h1,h2,h3,rfl⟩|⟨h,_⟩
 ·obtain⟨k1,k2⟩:=JZ l.l;obtain⟨k3,k4⟩:=lC n l.l h3;exact⟨k2 h1,by simp only;omega,k4,k3⟩
 exact absurd hc h
theorem leadT(b:UInt8):qG (vh b) (fun _=>True):=Go.Proofs.YtmllebdamdnhoaaGreat.rT b
theorem sB(b:UInt8):qG (yo b) (fun _=>True):=by
 unfold yo;split<;>exact .ret trivial
section
variable (s:qa) (hs:s.length<=2^28)
include hs
theorem left_L0: ∀k:Nat,k<s.length->qG (vR (s,(k:Int))) (fun v=>0<=v/\v<=k):=by
 intro k;induction k with
 |zero=>intro _;rw[vR.eq_1,if_neg (by simp)];exact .ret ⟨by omega,by omega⟩
 |succ k ih=>
  intro h;obtain⟨b,hb⟩:=gl h;rw[vR.eq_1,if_pos (by simp only[decide_eq_true_eq];omega)];refine .go (gi hb) ?_;refine .bind (leadT b) fun v _=>?_;refine .ite (fun _=>?_) fun _=> .ret ⟨by omega,by omega⟩;rw[show (((k+1:Nat):Int)-1)=(k:Int)from by omega,wi (n:=(k:Int))];exact .mono (ih (by omega)) fun v hv=>⟨hv.1,by omega⟩
theorem EI(a:Int)(h0:0<=a)(h1:a<=s.length):qG (aM s a) (fun v=>0<=v/\v<=s.length):=by
 unfold aM;rw[wi (n:=a-1)];have hl:qG (vR (s,a-1)) (fun v=>v<=s.length):=by
  by_cases c:0<a
  ·obtain⟨k,hk⟩: ∃k:Nat,a-1=k:=⟨(a-1).toNat,by omega⟩;rw[hk];exact .mono (left_L0 s hs k (by omega)) fun v hv=>by omega
  rw[vR.eq_1,if_neg (by simp;omega)];exact .ret (by omega)
 refine .bind hl fun v hv=> .ret ?_;constructor<;>split<;>omega
theorem Oj: ∀(d k:Nat),k+d=s.length->qG (wG (s,(k:Int))) (fun v=>0<=v/\v<=s.length):=by
 intro d;induction d with
 |zero=>intro k h;rw[wG.eq_1,if_neg (by simp;omega)];exact .ret ⟨by omega,by omega⟩
 |succ d ih=>
  intro k h;obtain⟨b,hb⟩:=gl (l:=s) (k:=k) (by omega);rw[wG.eq_1,if_pos (by simp;omega),ws (by omega)];refine .go (gi hb) ?_;refine .bind (leadT b) fun v _=>?_;exact .ite (fun _=>ih (k+1) (by omega)) fun _=> .ret ⟨by omega,by omega⟩
theorem D2(a:Int)(h0:0<=a)(h1:a<=s.length):qG (dw s a) (fun v=>0<=v/\v<=s.length):=by
 unfold dw;rw[wi (n:=a+1)];have hl:qG (wG (s,a+1)) (fun v=>0<=v):=by
  by_cases c:a+1<=s.length
  ·obtain⟨k,hk⟩: ∃k:Nat,a+1=k:=⟨(a+1).toNat,by omega⟩;rw[hk];exact .mono (Oj s hs (s.length-k) k (by omega)) fun v hv=>hv.1
  rw[wG.eq_1,if_neg (by simp;omega)];exact .ret (by omega)
 refine .bind hl fun v hv=> .ret ?_;constructor<;>split<;>omega
theorem step_L5: ∀k:Nat,k<=s.length->qG (bk (s,(k:Int))) (fun v=>0<=v/\v<=s.length):=by
 intro k;induction k with
 |zero=>intro _;rw[bk.eq_1,if_neg (by simp)];exact .ret ⟨by omega,by omega⟩
 |succ k ih=>
  intro h;obtain⟨b,hb⟩:=gl (l:=s) (k:=k) (by omega);rw[bk.eq_1,if_pos (by simp only[decide_eq_true_eq];omega),wi (n:=((k+1:Nat):Int)-1),show(((k+1:Nat):Int)-1)=(k:Int)from by omega];refine .go (gi hb) ?_;refine .bind (sB b) fun v _=>?_;exact .ite (fun _=>ih (by omega)) fun _=> .ret ⟨by omega,by omega⟩
theorem step_L7: ∀k:Nat,k<=s.length->qG (bo (s,(k:Int))) (fun v=>0<=v/\v<=s.length):=by
 intro k;induction k with
 |zero=>intro _;rw[bo.eq_1,if_neg (by simp)];exact .ret ⟨by omega,by omega⟩
 |succ k ih=>
  intro h;obtain⟨b,hb⟩:=gl (l:=s) (k:=k) (by omega);rw[bo.eq_1,if_pos (by simp only[decide_eq_true_eq];omega),wi (n:=((k+1:Nat):Int)-1),show(((k+1:Nat):Int)-1)=(k:Int)from by omega];refine .go (gi hb) ?_;refine .bind (sB b) fun v _=>?_;exact .ite (fun _=>ih (by omega)) fun _=> .ret ⟨by omega,by omega⟩
theorem step_L1: ∀(d k:Nat),k+d=s.length->qG (bh (s,(k:Int))) (fun v=>0<=v/\v<=s.length):=by
 intro d;induction d with
 |zero=>intro k h;rw[bh.eq_1,if_neg (by simp;omega)];exact .ret ⟨by omega,by omega⟩
 |succ d ih=>
  intro k h;obtain⟨b,hb⟩:=gl (l:=s) (k:=k) (by omega);rw[bh.eq_1,if_pos (by simp;omega),ws (by omega)];refine .go (gi hb) ?_;refine .bind (sB b) fun v _=>?_;exact .ite (fun _=>ih (k+1) (by omega)) fun _=> .ret ⟨by omega,by omega⟩
theorem step_L3: ∀(d k:Nat),k+d=s.length->qG (bj (s,(k:Int))) (fun v=>0<=v/\v<=s.length):=by
 intro d;induction d with
 |zero=>intro k h;rw[bj.eq_1,if_neg (by simp;omega)];exact .ret ⟨by omega,by omega⟩
 |succ d ih=>
  intro k h;obtain⟨b,hb⟩:=gl (l:=s) (k:=k) (by omega);rw[bj.eq_1,if_pos (by simp;omega),ws (by omega)];refine .go (gi hb) ?_;refine .bind (sB b) fun v _=>?_;exact .ite (fun _=>ih (k+1) (by omega)) fun _=> .ret ⟨by omega,by omega⟩
theorem Ku(a w7:Int)(h0:0<=a)(h1:a<=s.length):qG (rq s a w7) (fun v=>0<=v.1/\v.1<=s.length):=by
 have ZF: ∀{o:Option Int},qG o (fun v=>0<=v/\v<=s.length)->qG (o>>=fun v=>some (v,(0:Int))) (fun v=>0<=v.1/\v.1<=s.length):=fun h=>qG.bind h fun v hv=> .ret hv;unfold rq;refine .ite (fun _=> .ret ⟨by simp only;omega,by simp only;omega⟩) fun _=>?_;rw[if_neg (by simp;omega)];refine .bind (Co s hs a h0 h1) fun v hv=>?_;obtain⟨v1,v2⟩:=hv;have hbl:=Nt s;have htb:=Ky s a.toNat;refine .ite (fun _=>ZF (EI s hs a h0 h1)) fun _=>?_;refine .ite (fun _=>ZF (D2 s hs a h0 h1)) fun _=>?_;refine .ite (fun _=>?_) fun _=>?_
 ·obtain⟨x,y,c,g1,g2,g3,g4,g5,_⟩:=oe s hs v.1;exact .go g1 (.ret ⟨by simp only;omega,by simp only;omega⟩)
 refine .ite (fun _=>?_) fun _=>?_
 ·obtain⟨x,y,c,g1,g2,g3,g4,g5,_⟩:=oe s hs v.1;exact .go g2 (.ret ⟨by simp only;omega,by simp only;omega⟩)
 refine .ite (fun _=>qG.ite (fun _=>?_) fun _=> .ret ⟨by simp only;omega,by simp only;omega⟩) fun _=>?_
 ·exact .bind (K3 s hs _ _ v2) fun w hw=> .ret hw
 refine .ite (fun _=>?_) fun _=>?_
 ·refine .go (a:=((0::X4 s 0:List Int).length:Int)) (by unfold oo;rw[VP s hs];rfl) ?_;refine .ite (fun _=>?_) fun _=> .ret ⟨by simp only;omega,by simp only;omega⟩;exact .bind (K3 s hs _ _ v2) fun w hw=> .ret hw
 refine .ite (fun _=> .ret ⟨by simp only;omega,by simp only;omega⟩) fun _=>?_;refine .ite (fun _=> .ret ⟨by simp only;omega,by simp only;omega⟩) fun _=>?_;obtain⟨k,rfl⟩: ∃k:Nat,a=k:=⟨a.toNat,by omega⟩;refine .ite (fun _=>?_) fun _=>?_
 ·refine .bind (step_L5 s hs k (by omega)) fun w hw=>?_;obtain⟨j,rfl⟩: ∃j:Nat,w=j:=⟨w.toNat,by omega⟩;exact ZF (step_L7 s hs j (by omega))
 refine .bind (step_L1 s hs (s.length-k) k (by omega)) fun w hw=>?_;obtain⟨j,rfl⟩: ∃j:Nat,w=j:=⟨w.toNat,by omega⟩;exact ZF (step_L3 s hs (s.length-j) j (by omega))
end
theorem head_in{n:Int}{q:List qx}(h:JO n q){x:qx}(hx:x∈q):0<=x.head/\x.head<=n:=by
 have:=h x hx;have:=iX x;omega
theorem go_L0(s:qa)(hs:s.length<=2^28)(w7:Int)(ext:Bool)(l:Sl qx)(hl:l.l.length<=64)(hi:JO s.length l.l): ∀(r:List qx)(i:Nat)(out:List qx),l.l.drop i=r->out.length<=i->i<=l.l.length->qG (wt (s,w7,ext,l,(i:Int),out)) (fun v=>v.length<=64):=by
 intro r;induction r with
 |nil=>
  intro i out h ho hi;have:=zc h;rw[wt.eq_1,if_neg (by simp;omega)];exact .ret (by omega)
 |cons x r ih=>
  intro i out h ho BF;obtain⟨h1,h2,h3⟩:=zp h;have hx:=head_in hi (qX h1);rw[wt.eq_1,if_pos (by simp;omega),ws (by omega)];refine .go (gi h1) ?_;refine .go (X2 x) ?_;refine .bind (Ku s hs x.head w7 hx.1 hx.2) fun v hv=>?_;have k: ∀y:qx,qG (if qg (out.length+1) 16=true then wt (s,w7,ext,l,((i+1:Nat):Int),out++[y])else none) (fun v=>v.length<=64):=by
   intro y;rw[if_pos qB];exact ih (i+1) _ h2 (by simp;omega) (by omega)
  refine .ite (fun _=>qG.ite (fun _=>qG.ite (fun _=>qG.ite (fun _=>k _) fun _=>k _) fun _=>qG.ite (fun _=>k _) fun _=>k _) fun _=>k _) fun _=>k _
theorem go_tot(s:qa)(hs:s.length<=2^28)(w7:Int)(ext:Bool)(q:Sl qx)(hq:q.l.length<2^60):qG (QC s w7 ext q) (fun v=>v.2=0->XV s.length v.1.l):=by
 unfold QC;refine .ite (fun _=> .ret fun h=>absurd h (by decide)) fun _=>?_;refine .bind (a8 (s.length:Int) q hq) fun v hv=>?_;refine .ite (fun c=> .ret fun h=>absurd h (by simpa using c)) fun c=>?_;have hg:=hv (by simpa using c);refine .bind (go_L0 s hs w7 ext v.1 hg.Wg hg.XI v.1.l 0 [] rfl (by simp) (by simp)) fun w hw=>?_;exact .bind (a8 (s.length:Int) ⟨w.isEmpty,w⟩ (by simp only;omega)) fun u hu=> .ret hu
theorem L5(l:Sl qx)(text:qa)(hl:l.l.length<=64): ∀(r:List qx)(i:Nat)(es:List qo),l.l.drop i=r->es.length=i->qG (yw (l,text,(i:Int),es)) (fun v=>v.length=es.length+r.length/\ ∀e∈v,e∈es\/e.text=text):=by
 intro r;induction r with
 |nil=>
  intro i es h ho;have:=zc h;rw[yw.eq_1,if_neg (by simp;omega)];exact .ret ⟨by simp,fun e he=> .inl he⟩
 |cons x r ih=>
  intro i es h ho;obtain⟨h1,h2,h3⟩:=zp h;rw[yw.eq_1,if_pos (by simp;omega),ws (by omega)];refine .go (gi h1) ?_;refine .go (X2 x) ?_;rw[if_pos qB];refine .mono (ih (i+1) _ h2 (by simp;omega)) fun v hv=>⟨by have:=hv.1;simp at this |-; omega,fun e he=>?_⟩;rcases hv.2 e he with h|h
  ·rcases List.mem_append.1 h with h|h
   ·exact .inl h
   simp only[List.mem_singleton]at h;subst h;exact .inr rfl
  exact .inr h
theorem Up(l:List qo)(n:Nat)(h: ∀e∈l,e.text.length<=n):wu l<=l.length*n:=by
 induction l with
 |nil=>simp[wu]
 |cons e l ih=>
  have h1:=h e (by simp);have h2:=ih fun e' W6=>h e' (by simp[W6]);simp only[wu,List.map_cons,List.sum_cons,List.length_cons]at*
  rw[Nat.add_mul];omega
theorem Dw(l:Sl qx)(text:qa)(hl:l.l.length<=64)(ht:text.length<=65536):qG (s7 l text) (fun v=>v.l.length<=64/\wu v.l<=4194304):=by
 unfold s7;refine .bind (L5 l text hl l.l 0 [] rfl rfl) fun v hv=> .ret ?_;have h1:=hv.1;have h2:=Up v 65536 fun e he=>by
  rcases hv.2 e he with h|h
  ·simp at h
  rw[h];exact ht
 simp only[List.length_nil,Nat.zero_add]at h1;refine⟨by simp only;omega, ?_⟩;have:v.length*65536<=64*65536:=mulR _ (by omega);simp only;omega
theorem Sz(s:qa)(hs:s.length<=2^28)(l:Sl qx)(f:Bool)(hl:l.l.length<=64)(hi:JO s.length l.l): ∀(r:List qx)(i:Nat)(sp:List ql),l.l.drop i=r->sp.length<=i->i<=l.l.length->qG (zW (s,l,f,(i:Int),sp)) (fun v=>v.length<=64):=by
 intro r;induction r with
 |nil=>
  intro i sp h ho BF;have:=zc h;rw[zW.eq_1,if_neg (by simp;omega)];exact .ret (by omega)
 |cons x r ih=>
  intro i sp h ho BF;obtain⟨h1,h2,h3⟩:=zp h;have hx:=hi x (qX h1);have hle:=iX x;rw[zW.eq_1,if_pos (by simp;omega),ws (by omega)];refine .go (gi h1) ?_;refine .go (X2 x) ?_;refine .bind (Ku s hs (yU x).qO 1 hx.1 (by omega)) fun a ha=>?_;refine .bind (Ku s hs (yU x).qO 2 hx.1 (by omega)) fun b hb=>?_;have k: ∀y:ql,qG (if qg (sp.length+1) 16=true then zW (s,l,f,((i+1:Nat):Int),sp++[y])else none) (fun v=>v.length<=64):=by
   intro y;rw[if_pos qB];exact ih (i+1) _ h2 (by simp;omega) (by omega)
  have k0:qG (zW (s,l,f,((i+1:Nat):Int),sp)) (fun v=>v.length<=64):=ih (i+1) _ h2 (by omega) (by omega);exact .ite (fun _=>qG.ite (fun _=>qG.ite (fun _=>k _) fun _=>k0) fun _=>qG.ite (fun _=>k _) fun _=>k0) fun _=>qG.ite (fun _=>k _) fun _=>k0
end Xr
namespace Xr
theorem touch5(a b:ql):rn a b=some (decide (lf a b)):=rfl
theorem L9(s:Sl ql)(hs:s.l.length<=2^20): ∀(r:List ql)(i:Nat)(out:List ql),s.l.drop i=r->out.length<=i->i<=s.l.length->qG (jW (s,(i:Int),out)) (fun v=>v.length<=s.l.length):=by
 intro r;induction r with
 |nil=>
  intro i out h ho hi;have:=zc h;rw[jW.eq_1,if_neg (by simp;omega)];exact .ret (by omega)
 |cons x r ih=>
  intro i out h ho hi;obtain⟨h1,h2,h3⟩:=zp h;rw[jW.eq_1,if_pos (by simp;omega),ws (by omega)];refine .go (gi h1) ?_;have k: ∀y:ql,qG (if qg (out.length+1) 16=true then jW (s,((i+1:Nat):Int),out++[y])else none) (fun v=>v.length<=s.l.length):=by
   intro y;rw[if_pos qB];exact ih (i+1) _ h2 (by simp;omega) (by omega)
  refine .ite (fun _=>ih (i+1) _ h2 (by omega) (by omega)) fun _=>?_;refine .ite (fun c=>?_) fun _=>k _;have c0:0<out.length:=by simpa using c
  rw[wi (n:=(out.length:Int)-1),show(out.length:Int)-1=((out.length-1:Nat):Int)from by omega];obtain⟨y,hy⟩:=gl (l:=out) (k:=out.length-1) (by omega);refine .go (gi hy) ?_;refine .go (touch5 _ _) ?_;exact .ite (fun _=>ih (i+1) _ h2 (by rw[List.length_set];omega) (by omega)) fun _=>k _
theorem Zq(l:Sl ql)(hl:l.l.length<=64):qG (dp l) (fun v=>v.l.length<=64):=by
 unfold dp;have hp:=(mY id l.l []).length_eq;simp only[List.nil_append]at hp;refine .go (Bk l (by omega)) ?_;refine .bind (L9 _ (by simp only;omega) _ 0 [] rfl (by simp) (by simp)) fun v hv=> .ret ?_;simp only at hv |-;omega
theorem SA(u:Sl ql)(hu:u.l.length<=64): ∀(r:List ql)(i:Nat)(es:List qo),u.l.drop i=r->es.length<=i->i<=u.l.length->(∀ e∈es,e.text=[])->qG (vt (u,(i:Int),es)) (fun v=>v.length<=64/\ ∀e∈v,e.text=[]):=by
 intro r;induction r with
 |nil=>
  intro i es h ho hi he;have:=zc h;rw[vt.eq_1,if_neg (by simp;omega)];exact .ret ⟨by omega,he⟩
 |cons x r ih=>
  intro i es h ho hi he;obtain⟨h1,h2,h3⟩:=zp h;rw[vt.eq_1,if_pos (by simp;omega),ws (by omega)];refine .go (gi h1) ?_;rw[if_pos qB];refine ih (i+1) _ h2 (by simp;omega) (by omega) fun e h=>?_;rcases List.mem_append.1 h with h|h
  ·exact he e h
  simp only[List.mem_singleton]at h;subst h;rfl
theorem NL(s:qa)(hs:s.length<=2^28)(l:Sl qx)(f:Bool)(hl:l.l.length<=64)(hi:JO s.length l.l):qG (pR s l f) (fun v=>v.l.length<=64/\wu v.l<=4194304):=by
 unfold pR;refine .bind (Sz s hs l f hl hi l.l 0 [] rfl (by simp) (by simp)) fun v hv=>?_;refine .bind (Zq ⟨v.isEmpty,v⟩ hv) fun u hu=>?_;refine .bind (SA u hu u.l 0 [] rfl (by simp) (by simp) (by simp)) fun w hw=> .ret ⟨hw.1, ?_⟩;have:=Up w 0 fun e he=>by rw[hw.2 e he];simp
 simp only;omega
def free(x:qu):Prop:=x.qJ=false
structure Nums (is:List qw) (ns:List Int):Prop where
 of: ∀n∈ns,vU n is≠[]
 len:ns.length<=2^24+1
theorem RH{n:Int}{is:List qw}{i:qw}(hi:i∈is){x:qu}(hx:x∈i.stops.l)(h1:x.n=n)(h2:x.qJ=false):vU n is≠[]:=by
 intro h;have:x.span∈vU n is:=by
  unfold vU l9;simp only[List.mem_flatMap,List.mem_map,List.mem_filter,isN,zB,Bool.not_eq_true',beq_iff_eq];exact⟨i,hi,x,⟨hx,h2,h1⟩,rfl⟩
 rw[h]at this;simp at this
structure N9 (is:List qw) (m:Nat) (ns:List Int) (z met:Bool):Prop where
 of: ∀n∈ns,vU n is≠[]
 zero:z=true->vU 0 is≠[]
 len:ns.length<=m
 met:met=true->ns≠[]\/z=true
theorem Mx(is:Sl qw)(hL:many is.l<=2^24)(i:Nat)(x:qw)(hx:is.l[i]? =some x)(hxl:x.stops.l.length<=2^12): ∀(r:List qu)(k:Nat)(m:Nat)(ns:Sl Int)(z met:Bool),x.stops.l.drop k=r->m+r.length<=2^24->N9 is.l m ns.l z met->
  qG (zV (is,ns,z,(i:Int),(k:Int))) (fun v=>N9 is.l (m+r.length) v.1.l v.2 (met || r.any fun y=> !y.qJ)):=by
 intro r;induction r with
 |nil=>
  intro k m ns z met h hm W;have:=zc h;rw[zV.eq_1];refine .go (gi hx) ?_;rw[if_neg (by simp;omega)];exact .ret (by simpa using W)
 |cons y r ih=>
  intro k m ns z met h hm W;simp only[List.length_cons]at hm;obtain⟨h1,h2,h3⟩:=zp h;have Tq:=qX hx;have DQ:=qX h1;rw[zV.eq_1];refine .go (gi hx) ?_;rw[if_pos (by simp;omega),ws (by omega)];refine .go (gi h1) ?_;have hlen:=W.len;have ZF: ∀(ns' :Sl Int)(z' :Bool),N9 is.l (m+1) ns'.l z' (met || !y.qJ)->qG (zV (is,ns',z',(i:Int),((k+1:Nat):Int))) (fun v=>N9 is.l (m+(y::r).length) v.1.l v.2 (met || (y::r).any fun y=> !y.qJ)):=by
   intro ns' z' W';have:=ih (k+1) (m+1) ns' z' (met || !y.qJ) h2 (by omega) W';rw[show m+(y::r).length=m+1+r.length from by simp only[List.length_cons];omega,List.any_cons,<- Bool.or_assoc];exact this
  have put: ∀z' :Bool,y.qJ=false->(z' =true->vU 0 is.l≠[])->qG (pj ns y.n>>=fun v=>zV (is,v,z',(i:Int),((k+1:Nat):Int))) (fun v=>N9 is.l (m+(y::r).length) v.1.l v.2 (met || (y::r).any fun y=> !y.qJ)):=by
   intro z' ht hz;refine .bind (TT ns y.n (by omega)) fun v hv=>?_;obtain⟨v1,v2,v3,v4⟩:=hv;refine ZF v z' ⟨fun n hn=>?_,hz,by omega,fun _=> .inl ?_⟩
   ·rcases v2 n hn with rfl|h
    ·exact RH Tq DQ rfl ht
    exact W.of n h
   intro h;rw[h]at v3;simp at v3
  refine .ite (fun c=>?_) fun c=>?_
  ·have ht:y.qJ=false:=by simpa using c
   refine .ite (fun c2=>?_) fun c2=>?_
   ·have h0:vU 0 is.l≠[]:=RH Tq DQ (by simpa using c2) ht;refine .ite (fun _=>put true ht fun _=>h0) fun _=>?_;exact ZF ns true ⟨W.of,fun _=>h0,by omega,fun _=> .inr rfl⟩
   refine .ite (fun _=>put z ht W.zero) fun c3=>?_;simp at c2 c3;exact absurd c3 c2
  have ht:y.qJ=true:=by simpa using c
  exact ZF ns z ⟨W.of,W.zero,by omega,by rw[ht];simpa using W.met⟩
theorem Mw(is:Sl qw)(hL:many is.l<=2^24)(hb: ∀i∈is.l,i.stops.l.length<=2^12)(hn:is.l.length<=2^12): ∀(r:List qw)(i m:Nat)(ns:Sl Int)(z met:Bool),is.l.drop i=r->m+many r<=2^24->N9 is.l m ns.l z met->
  qG (wm (is,ns,z,(i:Int))) (fun v=>N9 is.l (m+many r) v.1.l v.2 (met || r.any fun x=>x.stops.l.any fun y=> !y.qJ)):=by
 intro r;induction r with
 |nil=>
  intro i m ns z met h hm W;have:=zc h;rw[wm.eq_1,if_neg (by simp;omega)];exact .ret (by simpa[many]using W)
 |cons x r ih=>
  intro i m ns z met h hm W;obtain⟨h1,h2,h3⟩:=zp h;have hx:=hb x (qX h1);have hmc:many (x::r)=x.stops.l.length+many r:=by simp[many]
  rw[wm.eq_1,if_pos (by simp;omega),ws (by omega)];refine .bind (Mx is hL i x h1 hx x.stops.l 0 m ns z met rfl (by omega) W) fun v hv=>?_;have:=ih (i+1) (m+x.stops.l.length) v.1 v.2 _ h2 (by omega) hv;rw[hmc,<- Nat.add_assoc,List.any_cons,<- Bool.or_assoc];exact this
theorem iP(is:Sl qw)(hb: ∀i∈is.l,i.stops.l.length<=2^12)(hn:is.l.length<=2^12):qG (uH is) (fun v=>Nums is.l v.l/\((∃ i∈is.l,∃ x∈i.stops.l,x.qJ=false)->v.l≠[])):=by
 have h1:=Qq hb;have h2:is.l.length*2^12<=2^12*2^12:=Nat.mul_le_mul hn (xJ _);have hm:many is.l<=2^24:=by omega
 unfold uH;refine .bind (Mw is hm hb hn is.l 0 0 ⟨true,[]⟩ false false rfl (by omega) ⟨by simp,by simp,by simp,by simp⟩) fun v hv=>?_;have hlen:=hv.len;have hmet:(∃ i∈is.l,∃ x∈i.stops.l,x.qJ=false)->v.1.l≠[]\/v.2=true:=by
  rintro⟨i,hi,x,hx,h⟩;refine hv.met ?_;simp only[Bool.false_or,List.any_eq_true];exact⟨i,hi,x,hx,by simp[h]⟩
 refine .ite (fun c=>?_) fun c=>?_
 ·refine .zm qB (qG.zm qB (.ret ⟨⟨fun n hn=>?_,by simp;omega⟩,fun _=>by simp⟩));rcases List.mem_append.1 hn with h|h
  ·exact hv.of n h
  simp only[List.mem_singleton]at h;subst h;exact hv.zero c
 refine .ret ⟨⟨hv.of,by omega⟩,fun h=>?_⟩;rcases hmet h with h|h
 ·exact h
 exact absurd h c
theorem Wz(a b:Int):qG (pt a b) (fun _=>True):=by
 unfold pt;split
 ·split<;>exact .ret trivial
 exact .ret trivial
theorem Ic(cur:Int)(is:Sl qw)(hb: ∀i∈is.l,i.stops.l.length<=2^12)(hn:is.l.length<=2^12):qG (da cur is) (fun v=>v.2=true->vU v.1 is.l≠[]):=by
 have loop: ∀(ns:Sl Int),Nums is.l ns.l-> ∀(d k:Nat),k+d=ns.l.length->qG (uG (cur,ns,(k:Int))) (fun v=>match v with| .inl y=>y.2=true->vU y.1 is.l≠[]| .inr _=>True):=by
  intro ns hN d;have:=hN.len;induction d with
  |zero=>intro k h;rw[uG.eq_1,if_neg (by simp;omega)];exact .ret trivial
  |succ d ih=>
   intro k h;obtain⟨x,hx⟩:=gl (l:=ns.l) (k:=k) (by omega);rw[uG.eq_1,if_pos (by simp;omega),ws (by omega)];refine .go (gi hx) ?_;refine .bind (Wz _ _) fun v _=>?_;exact .ite (fun _=> .ret fun _=>hN.of x (qX hx)) fun _=>ih (k+1) (by omega)
 unfold da;refine .bind (iP is hb hn) fun v hv=>?_;refine .bind (loop v hv.1 v.l.length 0 (by omega)) fun w hw=>?_;rcases w with w|w
 ·exact .ret hw
 exact .ret fun h=>absurd h (by decide)
theorem Iw(cur:Int)(is:Sl qw)(hb: ∀i∈is.l,i.stops.l.length<=2^12)(hn:is.l.length<=2^12):qG (db cur is) (fun v=>v.2=true->vU v.1 is.l≠[]):=by
 have loop: ∀(ns:Sl Int),Nums is.l ns.l-> ∀k:Nat,k<=ns.l.length->qG (uI (cur,ns,(k:Int)-1)) (fun v=>match v with| .inl y=>y.2=true->vU y.1 is.l≠[]| .inr _=>True):=by
  intro ns hN k;have:=hN.len;induction k with
  |zero=>intro h;rw[uI.eq_1,if_neg (by simp)];exact .ret trivial
  |succ k ih=>
   intro h;obtain⟨x,hx⟩:=gl (l:=ns.l) (k:=k) (by omega);rw[show ((k+1:Nat):Int)-1=(k:Int)from by omega,uI.eq_1,if_pos (by simp),wi (n:=(k:Int)-1)];refine .go (gi hx) ?_;refine .bind (Wz _ _) fun v _=>?_;exact .ite (fun _=> .ret fun _=>hN.of x (qX hx)) fun _=>ih (by omega)
 unfold db;refine .bind (iP is hb hn) fun v hv=>?_;have:=hv.1.len;rw[wi (n:=(v.l.length:Int)-1)];refine .bind (loop v hv.1 v.l.length (xJ _)) fun w hw=>?_;rcases w with w|w
 ·exact .ret hw
 exact .ret fun h=>absurd h (by decide)
end Xr
set_option maxHeartbeats 1000000
namespace Xr
theorem wR.sel{st:qr}(h:wR st){q:Sl qx}(g:XV st.text.length q.l):wR ⟨st.text,q,st.qj⟩:=
 ⟨⟨h.may.text,h.may.sA,g.ne,g.Wg,g.XI,g.T4,h.may.may,h.may.lies⟩,h.small,h.stop,h.Jm⟩
theorem PS.take{ss:List qc}(h:PS ss)(k:Nat):PS (ss.take k):=by
 intro j s hs;have hj:=(qF hs).1;rw[List.length_take]at hj;rw[List.getElem?_take_of_lt (by omega)]at hs;obtain⟨h1,h2⟩:=h j s hs;exact tW
theorem wR.take{st:qr}(h:wR st)(k:Nat)(b:Bool):wR ⟨st.text,st.xF,⟨b,st.qj.l.take k⟩⟩:=
 ⟨⟨h.may.text,by simp only[List.length_take];have:=h.may.sA;omega,h.may.ne,h.may.Wg,h.may.XI,h.may.T4,fun s hs=>h.may.may s (List.mem_of_mem_take hs),h.may.lies.take k⟩,
  fun s hs=>h.small s (List.mem_of_mem_take hs),fun s hs=>h.stop s (List.mem_of_mem_take hs),fun s hs=>h.Jm s (List.mem_of_mem_take hs)⟩
theorem wR.cur{st:qr}(h:wR st)(ss:List qc)(s:qc)(e:st.qj.l=ss++[s])(n:Int)(hn:vU n s.insts.l≠[])(b:Bool):wR ⟨st.text,st.xF,⟨b,ss++[⟨n,s.insts⟩]⟩⟩:=by
 have hm: ∀{P:qc->Prop},(∀ x∈st.qj.l,P x)->P ⟨n,s.insts⟩-> ∀x∈ss++[(⟨n,s.insts⟩:qc)],P x:=by
  intro P h1 h2 x hx;rcases List.mem_append.1 hx with hx|hx
  ·exact h1 x (by rw[e];exact List.mem_append_left _ hx)
  simp only[List.mem_singleton]at hx;subst hx;exact h2
 have hs:s∈st.qj.l:=by rw[e];simp
 have hl:=h.may.sA;rw[e]at hl;refine⟨⟨h.may.text,by simpa using hl,h.may.ne,h.may.Wg,h.may.XI,h.may.T4,hm h.may.may (h.may.may s hs), ?_⟩,hm h.small (h.small s hs),hm h.stop (h.stop s hs),hm h.Jm hn⟩;have hL:=h.may.lies;rw[e]at hL;intro j x hx;have hj:=(qF hx).1;simp only[List.length_append,List.length_singleton]at hj;have hprev: ∀p,0<j->(ss++[(⟨n,s.insts⟩:qc)])[j-1]? =some p->(ss++[s])[j-1]? =some p:=by
  intro p h0 hp;rw[List.getElem?_append_left (by omega)]at hp |-;exact hp
 by_cases c:j<ss.length
 ·rw[List.getElem?_append_left c]at hx;obtain⟨h1,h2⟩:=hL j x (by rw[List.getElem?_append_left c];exact hx);exact⟨h1,fun h0 p hp=>h2 h0 p (hprev p h0 hp)⟩
 have NX:j=ss.length:=by omega
 subst NX;rw[List.getElem?_append_right (xJ _)]at hx;simp only[Nat.sub_self,List.getElem?_cons_zero,kX]at hx;subst hx;obtain⟨h1,h2⟩:=hL ss.length s (by rw[List.getElem?_append_right (xJ _)];simp);exact⟨h1,fun h0 p hp=>h2 h0 p (hprev p h0 hp)⟩
theorem AG(n k:Int)(sp:Sl ql)(st t4:qr)(s:qc)(hs:sp.l.length<=2^24): ∀(r:List ql)(i:Nat)(l:List qx),sp.l.drop i=r->l.length<=i->i<=sp.l.length->qG (yO (n,k,sp,(i:Int),st,t4,s,l)) (fun v=>v.length<=2^24):=by
 intro r;induction r with
 |nil=>
  intro i l h ho hi;have:=zc h;rw[yO.eq_1,if_neg (by simp;omega)];exact .ret (by omega)
 |cons x r ih=>
  intro i l h ho hi;obtain⟨h1,h2,h3⟩:=zp h;rw[yO.eq_1,if_pos (by simp;omega),ws (by omega)];refine .go (gi h1) ?_;rw[if_pos qB];exact ih (i+1) _ h2 (by simp;omega) (by omega)
theorem Sw(n k:Int)(sp:Sl ql)(st t4:qr)(s:qc)(hs:sp.l.length<=2^24): ∀(r:List ql)(i:Nat)(l:List qx),sp.l.drop i=r->l.length<=i->i<=sp.l.length->qG (wq (n,k,sp,(i:Int),st,t4,s,l)) (fun v=>v.length<=2^24):=by
 intro r;induction r with
 |nil=>
  intro i l h ho hi;have:=zc h;rw[wq.eq_1,if_neg (by simp;omega)];exact .ret (by omega)
 |cons x r ih=>
  intro i l h ho hi;obtain⟨h1,h2,h3⟩:=zp h;rw[wq.eq_1,if_pos (by simp;omega),ws (by omega)];refine .go (gi h1) ?_;rw[if_pos qB];exact ih (i+1) _ h2 (by simp;omega) (by omega)
theorem JT{α:Type}{l:List α}{x:α}(h:l[l.length-1]? =some x):l=l.take (l.length-1)++[x]:=by
 obtain⟨h1,h2⟩:=qF h;have h3:l.take (l.length-1+1)=l.take (l.length-1)++[x]:=by rw[List.take_add_one,h];rfl
 exact tW
section
variable {st:qr} (h:wR st)
include h
theorem spl(x:qc)(hx:x∈st.qj.l)(n:Int):km n x.insts=some ⟨(vU n x.insts.l).isEmpty,vU n x.insts.l⟩/\(vU n x.insts.l).length<=2^24:=
 ⟨QH n x.insts (h.small x hx).2 (h.small x hx).1,Kp (h.small x hx) n⟩
theorem Sy(n:Int)(hn: ∀x∈st.qj.l,st.qj.l[st.qj.l.length-1]? =some x->vU n x.insts.l≠[])(jv:st.qj.l≠[]):qG (nC st.text st.xF n st.qj.l) (fun v=>v.2=0->wR v.1):=by
 have hl:=h.may.sA;have bU:=List.length_pos_iff.2 jv;unfold nC;rw[wi (n:=(st.qj.l.length:Int)-1),show(st.qj.l.length:Int)-1=((st.qj.l.length-1:Nat):Int)from by omega];obtain⟨x,hx⟩:=gl (l:=st.qj.l) (k:=st.qj.l.length-1) (by omega);have Tq:=qX hx;refine .go (gi hx) ?_;obtain⟨s1,s2⟩:=spl h x Tq n;refine .go s1 ?_;refine .bind (AG n _ ⟨(vU n x.insts.l).isEmpty,vU n x.insts.l⟩ _ _ x s2 _ 0 [] rfl (by simp) (by simp)) fun w hw=>?_;refine .bind (a8 (st.text.length:Int) ⟨w.isEmpty,w⟩ (by simp only;omega)) fun u hu=>?_;refine .ite (fun c=> .ret fun h0=>absurd h0 (by simpa using c)) fun c=>?_;have hg:=hu (by simpa using c);refine .go (Xe _ _ (by omega)) ?_;refine .zm (qB (by simp;omega) (by omega)) ?_;have JM:=wR.sel h hg;refine .ite (fun _=>qG.zm (qB (by simp;omega) (by omega)) (.ret fun _=>?_)) fun _=> .ret fun _=>?_
 ·exact JM.cur _ x (JT hx) n (hn x Tq hx) false
 exact JM.take _ false
theorem lr(n:Int)(hn: ∀x∈st.qj.l,st.qj.l[st.qj.l.length-1]? =some x->vU n x.insts.l≠[])(jv:st.qj.l≠[]):qG (uL st n) (fun v=>v.2=0->wR v.1):=by
 have hl:=h.may.sA;have bU:=List.length_pos_iff.2 jv;unfold uL;rw[wi (n:=(st.qj.l.length:Int)-1),show(st.qj.l.length:Int)-1=((st.qj.l.length-1:Nat):Int)from by omega];obtain⟨x,hx⟩:=gl (l:=st.qj.l) (k:=st.qj.l.length-1) (by omega);have Tq:=qX hx;refine .go (gi hx) ?_;obtain⟨s1,s2⟩:=spl h x Tq n;refine .go s1 ?_;refine .bind (Sw n _ ⟨(vU n x.insts.l).isEmpty,vU n x.insts.l⟩ _ _ x s2 _ 0 [] rfl (by simp) (by simp)) fun w hw=>?_;refine .bind (a8 (st.text.length:Int) ⟨w.isEmpty,w⟩ (by simp only;omega)) fun u hu=>?_;refine .ite (fun c=> .ret fun h0=>absurd h0 (by simpa using c)) fun c=>?_;have hg:=hu (by simpa using c);refine .go (Xe _ _ (by omega)) ?_;refine .zm (qB (by simp;omega) (by omega)) ?_;have JM:=wR.sel h hg;refine .ite (fun _=>qG.zm (qB (by simp;omega) (by omega)) (.ret fun _=>?_)) fun _=> .ret fun _=>?_
 ·exact JM.cur _ x (JT hx) n (hn x Tq hx) false
 exact JM.take _ false
theorem Gk(jv:st.qj.l≠[]):qG (rk st) wR:=by
 have hl:=h.may.sA;have bU:=List.length_pos_iff.2 jv;unfold rk;rw[wi (n:=(st.qj.l.length:Int)-1),show(st.qj.l.length:Int)-1=((st.qj.l.length-1:Nat):Int)from by omega];refine .go (Xe _ _ (by omega)) ?_;exact .zm (qB (by simp;omega) (by omega)) (.ret (h.take _ false))
theorem JX{α:Type}{k:Bool->Option α}{Q:α->Prop}(hk:qG (k true) Q):qG (hC st>>=k) Q:=by
 obtain⟨t,m1,m2⟩:=Gs st h.small (by have:=h.may.Wg;omega);obtain rfl:=m2.2 h.may;exact .go m1 hk
theorem Mr:qG (di st) (fun v=>v.2=0->wR v.1):=by
 have hl:=h.may.sA;unfold di;refine JX h ?_;rw[if_neg (by simp)];refine .ite (fun _=> .ret fun h0=>absurd h0 (by decide)) fun c=>?_;have jv:st.qj.l≠[]:=by intro e;rw[e]at c;simp at c
 have bU:=List.length_pos_iff.2 jv;rw[wi (n:=(st.qj.l.length:Int)-1),show(st.qj.l.length:Int)-1=((st.qj.l.length-1:Nat):Int)from by omega];obtain⟨x,hx⟩:=gl (l:=st.qj.l) (k:=st.qj.l.length-1) (by omega);have hs:=h.small x (qX hx);refine .go (gi hx) ?_;refine .bind (Ic x.cur x.insts hs.2 hs.1) fun v hv=>?_;refine .ite (fun _=>qG.bind (Gk h jv) fun u hu=> .ret fun _=>hu) fun c2=>?_;refine .bind (lr h v.1 (fun y _ hy=>?_) jv) fun u hu=> .ret hu;rw[hx]at hy;cases hy;exact hv (by simpa using c2)
theorem MJ:qG (dj st) (fun v=>v.2=0->wR v.1):=by
 have hl:=h.may.sA;unfold dj;refine JX h ?_;rw[if_neg (by simp)];refine .ite (fun _=> .ret fun h0=>absurd h0 (by decide)) fun c=>?_;have jv:st.qj.l≠[]:=by intro e;rw[e]at c;simp at c
 have bU:=List.length_pos_iff.2 jv;rw[wi (n:=(st.qj.l.length:Int)-1),show(st.qj.l.length:Int)-1=((st.qj.l.length-1:Nat):Int)from by omega];obtain⟨x,hx⟩:=gl (l:=st.qj.l) (k:=st.qj.l.length-1) (by omega);have hs:=h.small x (qX hx);refine .go (gi hx) ?_;refine .bind (Iw x.cur x.insts hs.2 hs.1) fun v hv=>?_;refine .ite (fun _=> .ret fun h0=>absurd h0 (by decide)) fun c2=>?_;refine .bind (lr h v.1 (fun y _ hy=>?_) jv) fun u hu=> .ret hu;rw[hx]at hy;cases hy;exact hv (by simpa using c2)
theorem Gj:qG (sm st) (fun v=>v.2=0->wR v.1):=by
 unfold sm;refine JX h ?_;rw[if_neg (by simp)];have:= @Gk;exact tW
theorem Sm(k n:Int)(x:qc)(hx:x∈st.qj.l)(a:Nat)(i:qw)(hi:x.insts.l[a]? =some i)(t4:qr): ∀(r:List qu)(j:Nat)(has f:Bool)(es:List qo),i.stops.l.drop j=r->es.length<=a+(if f=true then 1 else 0)->wu es<=es.length*17592186044416->
  qG (xC (k,n,has,(a:Int),f,(j:Int),st,t4,x,es)) (fun v=>v.2.length<=a+1/\wu v.2<=v.2.length*17592186044416):=by
 have hs:=h.small x hx;have ha:=(qF hi).1;have fC:=hs.2 i (qX hi);have ha12:=hs.1;intro r;induction r with
 |nil=>
  intro j has f es h0 h1 h2;have:=zc h0;rw[xC.eq_1];refine .go (gi hi) ?_;rw[if_neg (by simp;omega)];exact .ret ⟨by simp only;split at h1<;>omega,h2⟩
 |cons y r ih=>
  intro j has f es h0 h1 h2;obtain⟨g1,g2,g3⟩:=zp h0;have hso:=h.stop x hx i (qX hi) y (qX g1);rw[xC.eq_1];refine .go (gi hi) ?_;rw[if_pos (by simp;omega),ws (by omega)];refine .go (gi g1) ?_;refine .ite (fun _=>ih (j+1) _ _ _ g2 h1 h2) fun _=>?_;have take: ∀has' :Bool,((!f)&&((decide (k>=(0:Int)))&&(decide (k<(y.opts.l.length:Int)))))=true->qG (qi y.opts.l k>>=fun z=>if qg (es.length+1) 32=true then xC (k,n,has',(a:Int),true,((j+1:Nat):Int),st,t4,x,es++[(qo.mk y.span z)])else none) (fun v=>v.2.length<=a+1/\wu v.2<=v.2.length*17592186044416):=by
   intro has' c;simp only[zB,Bool.not_eq_true',decide_eq_true_eq]at c;obtain⟨c1,c2,c3⟩:=c;subst c1;simp only[w9,if_false,Nat.add_zero]at h1;refine .bind (qG.get (by omega) c3) fun z hz=>?_;have hzl:=hso.2 z hz.2;rw[if_pos qB];refine ih (j+1) _ _ _ g2 (by simp;omega) ?_;have:wu (es++[(qo.mk y.span z)])=wu es+z.length:=by simp[wu]
   rw[this,List.length_append,List.length_singleton,Nat.add_mul];omega
  exact .ite (fun _=>qG.ite (fun c=>take _ c) fun _=>ih (j+1) _ _ _ g2 h1 h2) fun _=>qG.ite (fun c=>take _ c) fun _=>ih (j+1) _ _ _ g2 h1 h2
theorem Sj(k n:Int)(x:qc)(hx:x∈st.qj.l)(t4:qr): ∀(r:List qw)(a:Nat)(has:Bool)(es:List qo),x.insts.l.drop a=r->a<=x.insts.l.length->es.length<=a->wu es<=es.length*17592186044416->
  qG (vB (k,n,has,(a:Int),st,t4,x,es)) (fun v=>v.2.length<=4096/\wu v.2<=v.2.length*17592186044416):=by
 have hs:=h.small x hx;have ha12:=hs.1;intro r;induction r with
 |nil=>
  intro a has es h0 WV h1 h2;have:=zc h0;rw[vB.eq_1,if_neg (by simp;omega)];exact .ret ⟨by simp only;omega,h2⟩
 |cons i r ih=>
  intro a has es h0 WV h1 h2;obtain⟨g1,g2,g3⟩:=zp h0;rw[vB.eq_1,if_pos (by simp;omega),ws (by omega)];have:= @Sm;exact tW
end
end Xr
theorem QV(s lead unit:qa)(hs:s.length<=8192002)(hl:lead.length<=1048576)(hu:unit.length<=1048576):qG (gp s lead unit) (fun r=>r.length<=17592186044416):=by
 have key: ∀(r:qa)(k:Nat)(behind:Bool)(b:qa),s.drop k=r->k<=s.length->b.length<=2097153*k->qG (zY (s,lead,unit,behind,(k:Int),b)) (fun r=>r.length<=17592186044416):=by
  have Kh: ∀n,n<=17592186044416->qg n 1=true:=by
   intro n hn;simp only[qg,zB,decide_eq_true_eq];omega
  intro r;induction r with
  |nil=>
   intro k behind b hk G3 hb;rw[zY.eq_1,if_neg (by simpa using vH hk)];exact .ret (by omega)
  |cons c r ih=>
   intro k behind b hk G3 hb;obtain⟨a1,a2,a3,a4⟩:=wv hk;have next: ∀(h:Bool)(e:qa),e.length<=b.length+2097153->qG (zY (s,lead,unit,h,((k+1:Nat):Int),e)) (fun r=>r.length<=17592186044416):=fun h e he=>ih (k+1) h e a3 (by omega) (by omega)
   rw[zY.eq_1,if_pos (by simpa using a1),i9 (by omega) a1,a2];exact tW
 unfold gp;exact tW
theorem WT(name:qa)(env:Sl qt)(he:env.l.length<=1099511627776):qG (yj name env) (fun r=>(∃ p∈env.l,r.1=p.value)\/(r.1=[]/\r.2=false)):=by
 have key: ∀(r:List qt)(k:Nat),env.l.drop k=r->qG (wB (name,env,(k:Int))) (fun v=>match v with| .inl y=> ∃p∈env.l,y.1=p.value| .inr _=>True):=by
  intro r;induction r with
  |nil=>
   intro k hk;rw[wB.eq_1,if_neg (by simpa using vH hk)];exact .ret trivial
  |cons c r ih=>
   intro k hk;obtain⟨a1,a2,a3,a4⟩:=wv hk;rw[wB.eq_1,if_pos (by simpa using a1),i9 (by omega) a1];exact tW
 unfold yj;exact tW
theorem ZO(name:qa):qG (pq name) (fun _=>True):=by
 have key: ∀(l:Sl qa)(hl:l.l.length<=1000)(r:List qa)(k:Nat),l.l.drop k=r->qG (yD (name,l,(k:Int))) (fun _=>True):=by
  intro l hl r;induction r with
  |nil=>
   intro k hk;rw[yD.eq_1,if_neg (by simpa using vH hk)];exact .ret trivial
  |cons c r ih=>
   intro k hk;obtain⟨a1,a2,a3,a4⟩:=wv hk;rw[yD.eq_1,if_pos (by simpa using a1),i9 (by omega) a1];exact tW
 unfold pq dY;refine .go rfl ?_;refine .bind (key _ (by simp) _ 0 rfl) fun v _=>?_;rcases v with v|v<;>exact .ret trivial
theorem mV(n:Int)(l:List Int)(hl:l.length<=1099511627776):qG (yc n l) (fun r=>r=true↔n∈l):=by
 have key: ∀(r:List Int)(k:Nat),l.drop k=r->qG (yG (n,(k:Int),l)) (fun v=>(v= .inl true/\n∈r)\/(v= .inr ()/\n∉r)):=by
  intro r;induction r with
  |nil=>
   intro k hk;rw[yG.eq_1,if_neg (by simpa using vH hk)];exact .ret (.inr ⟨rfl,by simp⟩)
  |cons c r ih=>
   intro k hk;obtain⟨a1,a2,a3,a4⟩:=wv hk;rw[yG.eq_1,if_pos (by simpa using a1),i9 (by omega) a1];refine .go a2 ?_;exact tW
 unfold yc;exact tW
abbrev Pt:=qb
inductive mH:Int->Nat->List Pt->Prop
 |nil (up:Int) (b:Nat):mH up b []
 |cons (up:Int) (b:Nat) (x:Pt) (qy rest:List Pt) (hu:x.up=up) (he:x.end_=((b+1+qy.length:Nat):Int)) (hd:x.xI=false->qy=[]) (ho:x.opts.l≠[]->qy=[])
   (hk:mH b (b+1) qy) (hr:mH up (b+1+qy.length) rest):mH up b (x::(qy++rest))
theorem mH.app{up:Int}{b:Nat}{l r:List Pt}(h:mH up b l):mH up (b+l.length) r->mH up b (l++r):=by
 induction h with
 |nil up b=>intro hr;simpa using hr
 |cons up b x qy rest hu he hd ho hk _ _ ih=>
  intro hr;have:=mH.cons up b x qy (rest++r) hu he hd ho hk (ih (by
   have:b+(x::(qy++rest)).length=b+1+qy.length+rest.length:=by simp;omega
   rwa[this]at hr))
  simpa using this
theorem mH.one{up:Int}{b:Nat}(x:Pt)(hu:x.up=up)(he:x.end_=((b+1:Nat):Int)):mH up b [x]:=by
 simpa using mH.cons up b x [] [] hu (by simpa using he) (fun _=>rfl) (fun _=>rfl) (.nil _ _) (.nil _ _)
structure Dz (k:Nat) (x:Pt):Prop where
 kind:0<=x.kind/\x.kind<=2
 other:x.kind≠1->x.n=0/\x.xI=false/\x.opts.l=[]
 n: -(k:Int)<=x.n/\x.n<=9999
 qP:vW x.qP<=1000000000
 dt:x.xI=true->x.qJ=false
 od:x.xI=false->x.opts.l=[]
 tt:x.qJ=true->x.text.length<=1048576
 tl:x.text.length<=17592186044416
 ol: ∀o∈x.opts.l,o.length<=17592186044416
theorem Dz.mono{j k:Nat}(h:j<=k){x:Pt}(p:Dz j x):Dz k x:=⟨p.kind,p.other,⟨by have:=p.n;omega,p.n.2⟩,p.qP,p.dt,p.od,p.tt,p.tl,p.ol⟩
def defs(r:List Pt):List Int:=(r.filter (·.xI)).map (·.n)
structure tM (r:List Pt) (ds:List Int) (ns:List qa):Prop where
 ok: ∀x∈r,Dz ns.length x
 dk: ∀n∈defs r,n∈ds
 un:(defs r).Nodup
 dl:ds.length<=r.length
 nl:ns.length<=r.length
structure eV (env:Sl qt) (lead unit:qa) (up:Int) (r:List Pt) (ns:List qa) (m:Nat) (v:Sl qt×qa×qa×List Pt×List Int×List qa):Prop where
 e1:v.1=env
 e2:v.2.1=lead
 e3:v.2.2.1=unit
 ex: ∃t,v.2.2.2.1=r++t/\mH up r.length t/\t.length<=2*m
 inv:tM v.2.2.2.1 v.2.2.2.2.1 v.2.2.2.2.2
 ns:ns.length<=v.2.2.2.2.2.length
theorem bQ(p:Pt)(b:Sl qt)(b2 b3:qa)(r:List Pt)(r2:List Int)(r3:List qa)(h:r.length<=100000000):
  qG (zJ p b b2 b3 r r2 r3) (fun v=>v=r++[{ p with end_:=((r.length+1:Nat):Int) }]):=by
 unfold zJ;have:= @wr;exact tW
theorem rL(a b:List Pt):defs (a++b)=defs a++defs b:=by simp[defs]
theorem rM(x:Pt):defs [x]=if x.xI then[x.n]else[]:=by unfold defs;cases h:x.xI<;>simp[h]
theorem tM.put{r:List Pt}{ds:List Int}{ns:List qa}(h:tM r ds ns)(x:Pt)(hx:Dz ns.length x)(hd:x.xI=false):tM (r++[x]) ds ns where
 ok:=by
  intro y hy;rcases List.mem_append.1 hy with hy|hy
  ·exact h.ok y hy
  exact tW
 dk:=by rw[rL,rM,hd];simpa using h.dk
 un:=by rw[rL,rM,hd];simpa using h.un
 dl:=by have:=h.dl;simp;omega
 nl:=by have:=h.nl;simp;omega
theorem tM.define{r:List Pt}{ds:List Int}{ns:List qa}(h:tM r ds ns)(x:Pt)(hx:Dz ns.length x)(hd:x.xI=true)(hn:x.n∉ds):tM (r++[x]) (ds++[x.n]) ns where
 ok:=by
  intro y hy;rcases List.mem_append.1 hy with hy|hy
  ·exact h.ok y hy
  exact tW
 dk:=by
  rw[rL,rM,hd];intro n hn;rcases List.mem_append.1 hn with hn|hn
  ·exact List.mem_append.2 (.inl (h.dk n hn))
  exact List.mem_append.2 (.inr hn)
 un:=by
  rw[rL,rM,hd];refine List.nodup_append.2 ⟨h.un,by simp,fun a ha b hb=>?_⟩;simp only[if_true,List.mem_singleton]at hb;subst hb;exact fun e=>hn (e ▸ h.dk a ha)
 dl:=by have:=h.dl;simp;omega
 nl:=by have:=h.nl;simp;omega
theorem tM.putN{r:List Pt}{ds:List Int}{ns ms:List qa}(h:tM r ds ns)(hm:ns.length<=ms.length/\ms.length<=ns.length+1)(x:Pt)(hx:Dz ms.length x)(hd:x.xI=false):tM (r++[x]) ds ms where
 ok:=by
  intro y hy;rcases List.mem_append.1 hy with hy|hy
  ·exact(h.ok y hy).mono hm.1
  exact tW
 dk:=by rw[rL,rM,hd];simpa using h.dk
 un:=by rw[rL,rM,hd];simpa using h.un
 dl:=by have:=h.dl;simp;omega
 nl:=by have:=h.nl;simp;omega
theorem tM.defineN{r:List Pt}{ds:List Int}{ns ms:List qa}(h:tM r ds ns)(hm:ns.length<=ms.length/\ms.length<=ns.length+1)(x:Pt)(hx:Dz ms.length x)(hd:x.xI=true)(hn:x.n∉ds):tM (r++[x]) (ds++[x.n]) ms where
 ok:=by
  intro y hy;rcases List.mem_append.1 hy with hy|hy
  ·exact(h.ok y hy).mono hm.1
  exact tW
 dk:=by
  rw[rL,rM,hd];intro n hn;rcases List.mem_append.1 hn with hn|hn
  ·exact List.mem_append.2 (.inl (h.dk n hn))
  exact List.mem_append.2 (.inr hn)
 un:=by
  rw[rL,rM,hd];refine List.nodup_append.2 ⟨h.un,by simp,fun a ha b hb=>?_⟩;simp only[if_true,List.mem_singleton]at hb;subst hb;exact fun e=>hn (e ▸ h.dk a ha)
 dl:=by have:=h.dl;simp;omega
 nl:=by have:=h.nl;simp;omega
theorem tM.names{r:List Pt}{ds:List Int}{ns:List qa}(h:tM r ds ns){ms:List qa}(h1:ns.length<=ms.length)(h2:ms.length<=r.length):tM r ds ms:=
 ⟨fun x hx=>(h.ok x hx).mono h1,h.dk,h.un,h.dl,h2⟩
theorem tM.Zz{r t:List Pt}{p q:Pt}{ds:List Int}{ns:List qa}(h:tM (r++p::t) ds ns)(e:Int)(hq:q={ p with end_:=e }):tM (r++q::t) ds ns where
 ok:=by
  subst hq;intro y hy;rcases List.mem_append.1 hy with hy|hy
  ·exact h.ok y (by simp[hy])
  rcases List.mem_cons.1 hy with rfl|hy
  ·have:=h.ok p (by simp);exact⟨this.kind,this.other,this.n,this.qP,this.dt,this.od,this.tt,this.tl,this.ol⟩
  exact h.ok y (by simp[hy])
 dk:=by
  have e1:defs (r++q::t)=defs (r++p::t):=by
   subst hq;simp only[defs,List.filter_append,List.filter_cons];cases p.xI<;>simp
  rw[e1];exact h.dk
 un:=by
  have e1:defs (r++q::t)=defs (r++p::t):=by
   subst hq;simp only[defs,List.filter_append,List.filter_cons];cases p.xI<;>simp
  rw[e1];exact h.un
 dl:=by have:=h.dl;simpa using this
 nl:=by have:=h.nl;simpa using this
theorem Yk:vW sC=1:=by simp[sC,o6,vW,vS,qK]
structure H3 (env:Sl qt) (lead unit:qa):Prop where
 len:env.l.length<=1099511627776
 val: ∀p∈env.l,p.value.length<=1048576
 lead:lead.length<=1048576
 unit:unit.length<=1048576
section
variable {env:Sl qt} {lead unit:qa}
theorem ZR(name:qa)(r:List Pt)(r2:List Int)(ns:List qa)(hn:ns.length<=100000000):
  qG (yk name env lead unit r r2 ns) (fun v=>ns.length<=v.2.length/\v.2.length<=ns.length+1/\ -(v.2.length:Int)<=v.1/\v.1<0):=by
 have key: ∀(q:List qa)(k:Nat),ns.drop k=q->qG (jM (name,(k:Int),env,lead,unit,r,r2,ns)) (fun v=>match v with| .inl y=> -(ns.length:Int)<=y/\y<0| .inr _=>True):=by
  intro q;induction q with
  |nil=>
   intro k hk;rw[jM.eq_1,if_neg (by simpa using vH hk)];exact .ret trivial
  |cons c q ih=>
   intro k hk;obtain⟨a1,a2,a3,a4⟩:=wv hk;rw[jM.eq_1,if_pos (by simpa using a1),i9 (by omega) a1];have:= @wr;exact tW
 unfold yk;refine .bind (key ns 0 rfl) fun v hv=>?_;rcases v with v|v
 ·exact tW
 have:= @wr;exact tW
theorem K6(plain:Bool)(a:Int)(r:List Pt)(r2:List Int)(r3:List qa)(x:qA)(hx:mj x<=8192002)(hE:H3 env lead unit)(p1:Int)(p2:qa)(p3:Int)(d:Bool)(p5 p6:Bool)(p7:Int)(p8:qa)(p9:Bool)(p10:Sl qT)(p11 p12:Int)(p13:Bool)(p14:Sl qE)(p15:Sl zl)(p16 p17:Bool)(p18 p19:Int):
  qG (zQ (plain,a,(0:Int),env,lead,unit,r,r2,r3,x,p1,p2,p3,d,p5,p6,p7,p8,p9,p10,p11,p12,p13,p14,p15,p16,p17,p18,p19,([]:List qa)))
   (fun o=>(d=false->o=[])/\(x.opts.l=[]->o=[])/\ ∀y∈o,y.length<=17592186044416):=by
 have hw:=bt x;have Eb:=xg YK x.opts.l;cases d with
 |false=>
  rw[zQ.eq_1,if_neg (by simp)];exact .ret ⟨fun _=>rfl,fun _=>rfl,by simp⟩
 |true=>
  have key: ∀(q:List qa)(k:Nat)(o:List qa),x.opts.l.drop k=q->o.length=k->k<=x.opts.l.length->(∀ y∈o,y.length<=17592186044416)->
    qG (zQ (plain,a,(k:Int),env,lead,unit,r,r2,r3,x,p1,p2,p3,true,p5,p6,p7,p8,p9,p10,p11,p12,p13,p14,p15,p16,p17,p18,p19,o)) (fun o=>o.length=x.opts.l.length/\ ∀y∈o,y.length<=17592186044416):=by
   intro q;induction q with
   |nil=>
    intro k o hk ho mE hy;rw[zQ.eq_1,if_neg (by simpa using vH hk)];have:=wU hk;exact .ret ⟨by omega,hy⟩
   |cons c q ih=>
    intro k o hk ho mE hy;obtain⟨a1,a2,a3,a4⟩:=wv hk;have hc:DW c<=qK (x.opts.l.map DW):=xA a4;have hcw:DW c=1+c.length:=rfl;rw[zQ.eq_1,if_pos (by simpa using a1),i9 (by omega) a1];refine .go a2 ?_;refine .bind (QV c lead unit (by omega) hE.lead hE.unit) fun v hv=>?_;refine .zm (by simp only[qg,zB,decide_eq_true_eq];omega) ?_;refine ih (k+1) _ a3 (by simp;omega) (by omega) ?_;intro y Wb;rcases List.mem_append.1 Wb with Wb|Wb
    ·exact hy y Wb
    simp only[List.mem_singleton]at Wb;subst Wb;exact hv
  refine(key x.opts.l 0 [] rfl rfl (by omega) (by simp)).mono fun o ho=>⟨by simp,fun h=>?_,ho.2⟩;have:=ho.1;rw[h]at this;simpa using this
theorem XQ{α:Type}(r t:List α)(p q:α):(r++p::t).set r.length q=r++q::t:=by
 rw[List.set_append_right _ _ (xJ _)];simp
theorem Qc{α:Type}(r t:List α)(p:α):qi (r++p::t) (r.length:Int)=some p:=by
 rw[j8 (by simp)];simp
theorem Kv(x:qA)(hx:mj x<=8192002)(hS:WS x)(hk:x.kind=1\/x.kind=2)(up:Int)(hE:H3 env lead unit)(r:List Pt)(ds:List Int)(ns:List qa)(hr:r.length+2*mj x<=40000000)(hI:tM r ds ns)
  (ih: ∀(up:Int)(r:List Pt)(ds:List Int)(ns:List qa),r.length+2*qK (x.qy.l.map mj)<=40000000->tM r ds ns->qG (zD (x.qy,up,env,lead,unit,r,ds,ns)) (eV env lead unit up r ns (qK (x.qy.l.map mj)))):
  qG (kJ (x,up,false,env,lead,unit,r,ds,ns)) (eV env lead unit up r ns (mj x)):=by
 have hw:=bt x;have Ls:=hI.dl;obtain⟨s2,s1,sn⟩:(x.kind=2->x.has=false/\x.qJ=false/\x.qy.l=[]/\0<x.opts.l.length)/\(x.kind=1\/x.kind=3->x.opts.l=[]/\(x.has=true->x.qJ=false)/\(x.has=false->x.qy.l=[]))/\(x.kind=1\/x.kind=2->0<=x.n/\x.n<=9999):=by
  cases hS with|mk _ _ _ a b _ c=>exact⟨a,b,c⟩
 have hn:=sn hk;rw[kJ.eq_1];refine .tI ?_ ?_<;>intro hT
 ·have hd:=hT;have htu:x.qJ=false:=by
   rcases hk with h|h
   ·rcases hd with hd|hd
    ·exact(s1 (.inl h)).2.1 hd
    omega
   exact(s2 h).2.1
  refine .bind (mV x.n ds (by omega)) fun v hv=>?_;refine .bind (K6 _ _ _ _ _ x hx hE _ _ _ (!v) _ _ _ _ _ _ _ _ _ _ _ _ _ _ _) fun o ho=>?_;have hp: ∀e,Dz ns.length (qb.mk (1:Int) ([]:qa) x.n (!v) false x.qJ x.qP (⟨o.isEmpty,o⟩:(Sl qa)) up e):=fun e=>
   ⟨by simp only;omega,by simp,⟨by simp only;omega,hn.2⟩,by simp only;omega,fun _=>htu,fun h=>ho.1 h,by simp,by simp,ho.2.2⟩
  refine .bind (bQ _ env lead unit r ds ns (by omega)) fun y hy=>?_;subst hy;refine .tI ?_ ?_<;>intro hT
  ·have Ql:=hT;refine .ret ⟨rfl,rfl,rfl,⟨_,rfl,mH.one _ rfl rfl,by simp;omega⟩,hI.put _ (hp _) (by simp[Ql]),xJ _⟩
  have Ql:=hT;refine .zm (by simp only[qg,zB,decide_eq_true_eq];omega) ?_;rw[if_neg (by simp)];have hI2:=hI.define _ (hp ((r.length+1:Nat):Int)) (by simp[Ql]) (fun h=>by have:=hv.2 h;simp_all);refine .bind (ih (r.length:Int) _ _ _ (by simp;omega) hI2) fun w Tp=>?_;obtain⟨g1,g2,g3,⟨t,g4,g5,g6⟩,g7,g8⟩:=Tp;rw[g4,List.append_assoc]at g7 |-;simp only[List.cons_append,List.nil_append]at g7 |-;refine .go (Qc _ _ _) ?_;rw[Int.toNat_natCast,XQ];have hlen:(r++qb.mk (1:Int) ([]:qa) x.n (!v) false x.qJ x.qP (⟨o.isEmpty,o⟩:(Sl qa)) up ((r.length+1:Nat):Int)::t).length=r.length+1+t.length:=by simp;omega
  refine .ret ⟨g1,g2,g3,⟨_,rfl, ?_,by simp;omega⟩, ?_,g8⟩
  ·have hkid:(⟨o.isEmpty,o⟩:Sl qa).l≠[]->t=[]:=by
    intro h;have hko:x.qy.l=[]:=by
     rcases hk with h1|h1
     ·exact absurd (ho.2.1 (s1 (.inl h1)).1) h
     exact(s2 h1).2.2.1
    have:t.length<=0:=by rw[hko]at g6;simpa[qK]using g6
    simpa using this
   have:=mH.cons up r.length (qb.mk (1:Int) ([]:qa) x.n (!v) false x.qJ x.qP (⟨o.isEmpty,o⟩:(Sl qa)) up (((r++qb.mk (1:Int) ([]:qa) x.n (!v) false x.qJ x.qP (⟨o.isEmpty,o⟩:(Sl qa)) up ((r.length+1:Nat):Int)::t).length:Nat):Int)) t [] rfl (by simp only[hlen]) (fun h=>by simp[Ql]at h) hkid (by simpa using g5) (.nil _ _);simpa using this
  exact g7.Zz _ rfl
 have hd:=hT;refine .bind (K6 _ _ _ _ _ x hx hE _ _ _ false _ _ _ _ _ _ _ _ _ _ _ _ _ _ _) fun o ho=>?_;refine .bind (bQ _ env lead unit r ds ns (by omega)) fun y hy=>?_;subst hy;refine .ret ⟨rfl,rfl,rfl,⟨_,rfl,mH.one _ rfl rfl,by simp;omega⟩,hI.put _ ?_ rfl,xJ _⟩;exact⟨by simp only;omega,by simp,⟨by simp only;omega,hn.2⟩,by simp only;omega,by simp,fun _=>ho.1 rfl,by simp,by simp,ho.2.2⟩
end
section
variable {env:Sl qt} {lead unit:qa}
theorem eV.trans{up:Int}{r:List Pt}{ns:List qa}{m1 m2:Nat}{v w:Sl qt×qa×qa×List Pt×List Int×List qa}(h1:eV env lead unit up r ns m1 v)(h2:eV env lead unit up v.2.2.2.1 v.2.2.2.2.2 m2 w):eV env lead unit up r ns (m1+m2) w:=by
 obtain⟨t1,a1,a2,a3⟩:=h1.ex;obtain⟨t2,b1,b2,b3⟩:=h2.ex;refine⟨h2.e1,h2.e2,h2.e3,⟨t1++t2,by rw[b1,a1,List.append_assoc],a2.app ?_,by simp;omega⟩,h2.inv,Nat.le_trans h1.ns h2.ns⟩;rw[a1]at b2;simpa using b2
theorem eV.len{up:Int}{r:List Pt}{ns:List qa}{m:Nat}{v:Sl qt×qa×qa×List Pt×List Int×List qa}(h:eV env lead unit up r ns m v):v.2.2.2.1.length<=r.length+2*m:=by
 obtain⟨t,a1,_,a3⟩:=h.ex;rw[a1];simp;omega
theorem fU{up:Int}{r:List Pt}{ds:List Int}{ns:List qa}(hI:tM r ds ns){x:Pt}(hu:x.up=up)(hd:x.xI=false)(he:x.end_=((r.length+1:Nat):Int))(hp:Dz ns.length x){m:Nat}(hm:1<=m):
  eV env lead unit up r ns m (env,lead,unit,r++[x],ds,ns):=
 ⟨rfl,rfl,rfl,⟨_,rfl,mH.one _ hu he,by simp;omega⟩,hI.put _ hp hd,xJ _⟩
theorem Vp(n:Int)(t:qa)(ht:t.length<=8192002)(up:Int)(r:List Pt)(ds:List Int)(ns:List qa)(hr:r.length<=50000000)(hI:tM r ds ns)(ms:List qa)(hms:ns.length<=ms.length/\ms.length<=ns.length+1)(hn: -(ms.length:Int)<=n/\n<0):
  qG (vw ((1:Int),([]:qa),n,true,false,(0:Int),([]:qa),false,(⟨true,([]:List qT)⟩:Sl qT),(0:Int),(0:Int),false,(⟨true,([]:List qE)⟩:Sl qE),(⟨true,([]:List zl)⟩:Sl zl),false,false,(⟨true,([]:List qa)⟩:Sl qa),up,true,env,lead,unit,[(qA.mk (0:Int) t (0:Int) false false (zf.mk (qE.mk (0:Int) ([]:qa) false (⟨true,[]⟩:(Sl qT)) (0:Int) (0:Int) false (⟨true,[]⟩:(Sl qE))) (⟨true,[]⟩:(Sl zl)) false false) (⟨true,[]⟩:(Sl qa)) (⟨true,[]⟩:(Sl qA)))],r,ds,ms))
   (fun v=> ∃r' T6,v= .inl (r',T6)/\eV env lead unit up r ns 1 (env,lead,unit,r',T6,ms)):=by
 have Ls:=hI.dl;have hnl:=hI.nl;rw[vw.eq_1];rw[if_pos (by simp)];refine .bind (mV n ds (by omega)) fun v hv=>?_;refine .go (a:=[]) (by rw[wk.eq_1];simp) ?_;have hp: ∀e,Dz ms.length (qb.mk (1:Int) ([]:qa) n (!v) false false (zf.mk (qE.mk (0:Int) ([]:qa) false (⟨true,([]:List qT)⟩:Sl qT) (0:Int) (0:Int) false (⟨true,([]:List qE)⟩:Sl qE)) (⟨true,([]:List zl)⟩:Sl zl) false false) (⟨([]:List qa).isEmpty,[]⟩:(Sl qa)) up e):=fun e=>
  ⟨by simp only;omega,by simp,⟨hn.1,by simp only;omega⟩,by have:=Yk;unfold sC o6 at this;simp only[this];omega,fun _=>rfl,fun _=>rfl,by simp,by simp,by simp⟩
 have hq: ∀e,Dz ms.length (qb.mk (0:Int) t (0:Int) false false false (zf.mk (qE.mk (0:Int) ([]:qa) false (⟨true,([]:List qT)⟩:Sl qT) (0:Int) (0:Int) false (⟨true,([]:List qE)⟩:Sl qE)) (⟨true,([]:List zl)⟩:Sl zl) false false) (⟨true,([]:List qa)⟩:(Sl qa)) (r.length:Int) e):=fun e=>
  ⟨by simp only;omega,by simp,⟨by simp only;omega,by simp only;omega⟩,by have:=Yk;unfold sC o6 at this;simp only[this];omega,by simp,fun _=>rfl,by simp,by simp only;omega,by simp⟩
 refine .bind (bQ _ env lead unit r ds ms (by omega)) fun y hy=>?_;subst hy;refine .tI ?_ ?_<;>intro hT
 ·have Ql:=hT;exact .ret ⟨_,_,rfl,⟨rfl,rfl,rfl,⟨_,rfl,mH.one _ rfl rfl,by simp⟩,hI.putN hms _ (hp _) (by simp[Ql]),hms.1⟩⟩
 have Ql:=hT;refine .zm (by simp only[qg,zB,decide_eq_true_eq];omega) ?_;rw[if_pos rfl];refine .go (a:=(qA.mk (0:Int) t (0:Int) false false (zf.mk (qE.mk (0:Int) ([]:qa) false (⟨true,[]⟩:(Sl qT)) (0:Int) (0:Int) false (⟨true,[]⟩:(Sl qE))) (⟨true,[]⟩:(Sl zl)) false false) (⟨true,[]⟩:(Sl qa)) (⟨true,[]⟩:(Sl qA)))) rfl ?_;have hI2:=hI.defineN hms _ (hp ((r.length+1:Nat):Int)) (by simp[Ql]) (fun h=>by have:=hv.2 h;simp_all);refine .bind (bQ _ env lead unit _ _ ms (by simp;omega)) fun y hy=>?_;simp only[List.length_append,List.length_cons,List.length_nil,Nat.zero_add]at hy;subst hy;have hI3:=hI2.put _ (hq ((r.length+1+1:Nat):Int)) rfl;rw[List.append_assoc]at hI3 |-;simp only[List.cons_append,List.nil_append]at hI3 |-;refine .go (Qc _ _ _) ?_;rw[Int.toNat_natCast,XQ];refine .ret ⟨_,_,rfl,⟨rfl,rfl,rfl,⟨_,rfl, ?_,by simp⟩,hI3.Zz _ rfl,hms.1⟩⟩;have:=mH.cons (up:=up) (b:=r.length) (qb.mk (1:Int) ([]:qa) n (!v) false false (zf.mk (qE.mk (0:Int) ([]:qa) false (⟨true,([]:List qT)⟩:Sl qT) (0:Int) (0:Int) false (⟨true,([]:List qE)⟩:Sl qE)) (⟨true,([]:List zl)⟩:Sl zl) false false) (⟨([]:List qa).isEmpty,[]⟩:(Sl qa)) up ((r.length+1+1:Nat):Int))
  [qb.mk (0:Int) t (0:Int) false false false (zf.mk (qE.mk (0:Int) ([]:qa) false (⟨true,([]:List qT)⟩:Sl qT) (0:Int) (0:Int) false (⟨true,([]:List qE)⟩:Sl qE)) (⟨true,([]:List zl)⟩:Sl zl) false false) (⟨true,([]:List qa)⟩:(Sl qa)) (r.length:Int) ((r.length+1+1:Nat):Int)] [] rfl (by simp) (fun h=>by simp[Ql]at h) (fun h=>absurd rfl h) (mH.one _ rfl rfl) (.nil _ _)
 have e2:(r.length:Int)+2=(r.length:Int)+1+1:=by omega
 simpa[e2]using this
theorem V1(hE:H3 env lead unit): ∀(m:Nat)(l:Sl qA),qK (l.l.map mj)<=m->m<=8192002->XU l-> ∀(up:Int)(r:List Pt)(ds:List Int)(ns:List qa),r.length+2*qK (l.l.map mj)<=40000000->tM r ds ns->
  qG (zD (l,up,env,lead,unit,r,ds,ns)) (eV env lead unit up r ns (qK (l.l.map mj))):=by
 intro m;induction m using Nat.strongRecOn with
 |_ m ih=>
 intro l hl hm hS up r ds ns hr hI;have hlen:=xg rH l.l;have key: ∀(q:List qA)(k:Nat)(r:List Pt)(ds:List Int)(ns:List qa),l.l.drop k=q->r.length+2*qK (q.map mj)<=40000000->tM r ds ns->
   qG (z8 (l,up,(k:Int),env,lead,unit,r,ds,ns)) (eV env lead unit up r ns (qK (q.map mj))):=by
  intro q;induction q with
  |nil=>
   intro k r ds ns hk hr hI;rw[z8.eq_1,if_neg (by simpa using vH hk)];exact .ret ⟨rfl,rfl,rfl,⟨[],by simp,.nil _ _,by simp⟩,hI,xJ _⟩
  |cons x q ihq=>
   intro k r ds ns hk hr hI;obtain⟨a1,a2,a3,a4⟩:=wv hk;have hx:=xA (f:=mj) a4;have hxw:=bt x;have C2:=rH x;simp only[List.map_cons,qK]at hr |-;have hSx:=hS x a4;have next: ∀v:Sl qt×qa×qa×List Pt×List Int×List qa,eV env lead unit up r ns (mj x) v->
     qG (z8 (l,up,((k+1:Nat):Int),v.1,v.2.1,v.2.2.1,v.2.2.2.1,v.2.2.2.2.1,v.2.2.2.2.2)) (eV env lead unit up r ns (mj x+qK (q.map mj))):=by
    intro v hv;have:=hv.len;rw[hv.e1,hv.e2,hv.e3];exact(ihq (k+1) _ _ _ a3 (by omega) hv.inv).mono fun w hw=>hv.trans hw
   rw[z8.eq_1,if_pos (by simpa using a1),i9 (by omega) a1];refine .go a2 ?_;refine .tI ?_ ?_<;>intro hT
   ·refine .bind (QV x.text lead unit (by omega) hE.lead hE.unit) fun t ht=>?_;refine .bind (bQ _ env lead unit r ds ns (by omega)) fun y hy=>?_;subst hy;refine next (env,lead,unit,_,ds,ns) ?_
    refine fU hI ?_ ?_ ?_ ?_ C2;rfl;rfl;rfl;exact⟨by simp only;omega,by simp,⟨by simp only;omega,by simp only;omega⟩,by have:=Yk;unfold sC o6 at this;simp only[this];omega,by simp,fun _=>rfl,by simp,ht,by simp⟩
   have k0:=hT;refine .tI ?_ ?_<;>intro hT
   ·have k3:=hT;refine .bind (WT x.text env hE.len) fun v hv=>?_;have Eo:v.1.length<=1048576:=by
     rcases hv with ⟨p,p1,p2⟩|⟨p1,_⟩
     ·rw[p2];exact hE.val p p1
     rw[p1];simp
    refine .tI ?_ ?_<;>intro hT
    ·refine .bind (bQ _ env lead unit r ds ns (by omega)) fun y hy=>?_;subst hy;refine next (env,lead,unit,_,ds,ns) ?_
     refine fU hI ?_ ?_ ?_ ?_ C2;rfl;rfl;rfl;exact⟨by simp only;omega,by simp,⟨by simp only;omega,by simp only;omega⟩,by simp only;omega,by simp,fun _=>rfl,fun _=>Eo,by simp only;omega,by simp⟩
    refine .tI ?_ ?_<;>intro hT
    ·refine .bind (ih (qK (x.qy.l.map mj)) (by omega) x.qy (xJ _) (by omega) (by cases hSx;assumption) up r ds ns (by omega) hI) fun v hv=>?_;refine next v ⟨hv.e1,hv.e2,hv.e3, ?_,hv.inv,hv.ns⟩
     obtain⟨t,t1,t2,t3⟩:=hv.ex;exact⟨t,t1,t2,by omega⟩
    refine .bind (ZO x.text) fun v _=>?_;refine .tI ?_ ?_<;>intro hT
    ·refine .bind (bQ _ env lead unit r ds ns (by omega)) fun y hy=>?_;subst hy;refine next (env,lead,unit,_,ds,ns) ?_
     refine fU hI ?_ ?_ ?_ ?_ C2;rfl;rfl;rfl;exact⟨by simp only;omega,by simp,⟨by simp only;omega,by simp only;omega⟩,by simp only;omega,by simp,fun _=>rfl,by simp,by simp,by simp⟩
    have hnl:=hI.nl;refine .bind (ZR x.text r ds ns (by omega)) fun w hw=>?_;refine .bind (Vp w.1 x.text (by omega) up r ds ns (by omega) hI w.2 ⟨hw.1,hw.2.1⟩ ⟨hw.2.2.1,hw.2.2.2⟩) fun y hy=>?_;obtain⟨r',T6,rfl,hy⟩:=hy;refine next (env,lead,unit,r',T6,w.2) ⟨hy.e1,hy.e2,hy.e3, ?_,hy.inv,hy.ns⟩
    obtain⟨t,t1,t2,t3⟩:=hy.ex;exact⟨t,t1,t2,by omega⟩
   have k3:=hT;have hkd:0<=x.kind/\x.kind<=3:=by cases hSx;assumption
   refine .bind (Kv x (by omega) hSx (by omega) up hE r ds ns (by omega) hI ?_) fun v hv=>?_
   ·intro up r ds ns hr hI;exact ih (qK (x.qy.l.map mj)) (by omega) x.qy (xJ _) (by omega) (by cases hSx;assumption) up r ds ns (by omega) hI
   exact next v hv
 rw[zD.eq_1];exact .bind (key l.l 0 r ds ns rfl hr hI) fun v hv=> .ret hv
theorem Ma(hE:H3 env lead unit)(l:Sl qA)(hl:qK (l.l.map mj)<=8192002)(hS:XU l)(up:Int):qG (bH l up env lead unit) (eV env lead unit up [] [] (qK (l.l.map mj))):=by
 have hlen:=xg rH l.l;have key: ∀(q:List qA)(k:Nat)(r:List Pt)(ds:List Int)(ns:List qa),l.l.drop k=q->r.length+2*qK (q.map mj)<=40000000->tM r ds ns->
   qG (zr (l,up,(k:Int),env,lead,unit,r,ds,ns)) (eV env lead unit up r ns (qK (q.map mj))):=by
  intro q;induction q with
  |nil=>
   intro k r ds ns hk hr hI;rw[zr.eq_1,if_neg (by simpa using vH hk)];exact .ret ⟨rfl,rfl,rfl,⟨[],by simp,.nil _ _,by simp⟩,hI,xJ _⟩
  |cons x q ihq=>
   intro k r ds ns hk hr hI;obtain⟨a1,a2,a3,a4⟩:=wv hk;have hx:=xA (f:=mj) a4;have hxw:=bt x;have C2:=rH x;simp only[List.map_cons,qK]at hr |-;have hSx:=hS x a4;have next: ∀v:Sl qt×qa×qa×List Pt×List Int×List qa,eV env lead unit up r ns (mj x) v->
     qG (zr (l,up,((k+1:Nat):Int),v.1,v.2.1,v.2.2.1,v.2.2.2.1,v.2.2.2.2.1,v.2.2.2.2.2)) (eV env lead unit up r ns (mj x+qK (q.map mj))):=by
    intro v hv;have:=hv.len;rw[hv.e1,hv.e2,hv.e3];exact(ihq (k+1) _ _ _ a3 (by omega) hv.inv).mono fun w hw=>hv.trans hw
   rw[zr.eq_1,if_pos (by simpa using a1),i9 (by omega) a1];refine .go a2 ?_;refine .tI ?_ ?_<;>intro hT
   ·refine .bind (QV x.text lead unit (by omega) hE.lead hE.unit) fun t ht=>?_;refine .bind (bQ _ env lead unit r ds ns (by omega)) fun y hy=>?_;subst hy;refine next (env,lead,unit,_,ds,ns) ?_
    refine fU hI ?_ ?_ ?_ ?_ C2;rfl;rfl;rfl;exact⟨by simp only;omega,by simp,⟨by simp only;omega,by simp only;omega⟩,by have:=Yk;unfold sC o6 at this;simp only[this];omega,by simp,fun _=>rfl,by simp,ht,by simp⟩
   have k0:=hT;refine .tI ?_ ?_<;>intro hT
   ·have k3:=hT;refine .bind (WT x.text env hE.len) fun v hv=>?_;have Eo:v.1.length<=1048576:=by
     rcases hv with ⟨p,p1,p2⟩|⟨p1,_⟩
     ·rw[p2];exact hE.val p p1
     rw[p1];simp
    refine .tI ?_ ?_<;>intro hT
    ·refine .bind (bQ _ env lead unit r ds ns (by omega)) fun y hy=>?_;subst hy;refine next (env,lead,unit,_,ds,ns) ?_
     refine fU hI ?_ ?_ ?_ ?_ C2;rfl;rfl;rfl;exact⟨by simp only;omega,by simp,⟨by simp only;omega,by simp only;omega⟩,by simp only;omega,by simp,fun _=>rfl,fun _=>Eo,by simp only;omega,by simp⟩
    refine .tI ?_ ?_<;>intro hT
    ·refine .bind (V1 hE (qK (x.qy.l.map mj)) x.qy (xJ _) (by omega) (by cases hSx;assumption) up r ds ns (by omega) hI) fun v hv=>?_;refine next v ⟨hv.e1,hv.e2,hv.e3, ?_,hv.inv,hv.ns⟩
     obtain⟨t,t1,t2,t3⟩:=hv.ex;exact⟨t,t1,t2,by omega⟩
    refine .bind (ZO x.text) fun v _=>?_;refine .tI ?_ ?_<;>intro hT
    ·refine .bind (bQ _ env lead unit r ds ns (by omega)) fun y hy=>?_;subst hy;refine next (env,lead,unit,_,ds,ns) ?_
     refine fU hI ?_ ?_ ?_ ?_ C2;rfl;rfl;rfl;exact⟨by simp only;omega,by simp,⟨by simp only;omega,by simp only;omega⟩,by simp only;omega,by simp,fun _=>rfl,by simp,by simp,by simp⟩
    have hnl:=hI.nl;refine .bind (ZR x.text r ds ns (by omega)) fun w hw=>?_;refine .bind (Vp w.1 x.text (by omega) up r ds ns (by omega) hI w.2 ⟨hw.1,hw.2.1⟩ ⟨hw.2.2.1,hw.2.2.2⟩) fun y hy=>?_;obtain⟨r',T6,rfl,hy⟩:=hy;refine next (env,lead,unit,r',T6,w.2) ⟨hy.e1,hy.e2,hy.e3, ?_,hy.inv,hy.ns⟩
    obtain⟨t,t1,t2,t3⟩:=hy.ex;exact⟨t,t1,t2,by omega⟩
   have k3:=hT;have hkd:0<=x.kind/\x.kind<=3:=by cases hSx;assumption
   refine .bind (Kv x (by omega) hSx (by omega) up hE r ds ns (by omega) hI ?_) fun v hv=>?_
   ·intro up r ds ns hr hI;exact V1 hE (qK (x.qy.l.map mj)) x.qy (xJ _) (by omega) (by cases hSx;assumption) up r ds ns (by omega) hI
   exact next v hv
 unfold bH;exact .bind (key l.l 0 [] [] [] rfl (by simp;omega) ⟨by simp,by simp[defs],by simp[defs],by simp,by simp⟩) fun v hv=> .ret hv
end
def core(x:Pt):Pt:={ x with n:=0,first:=false }
theorem mH.Xp{up:Int}{b:Nat}{l:List Pt}(h:mH up b l): ∀{l' :List Pt},l'.map core=l.map core->mH up b l' :=by
 induction h with
 |nil up b=>intro l' h;simp at h;subst h;exact .nil _ _
 |cons up b x qy rest hu he hd ho hk _ UE XH=>
  intro l' h;rw[List.map_cons,List.map_append]at h;cases l' with
  |nil=>simp at h
  |cons y t=>
   simp only[List.map_cons,List.cons.injEq]at h;obtain⟨h1,h2⟩:=h;obtain⟨k',r',rfl,e1,e2⟩:=List.map_eq_append_iff.1 h2;have e3:k'.length=qy.length:=by simpa using congrArg List.length e1
   have e4:y.up=x.up:=(congrArg (·.up) h1:(core y).up=(core x).up);have e5:y.end_=x.end_:=(congrArg (·.end_) h1:(core y).end_=(core x).end_);have e6:y.xI=x.xI:=(congrArg (·.xI) h1:(core y).xI=(core x).xI);have e7:y.opts=x.opts:=(congrArg (·.opts) h1:(core y).opts=(core x).opts);refine .cons up b y k' r' (e4.trans hu) (by rw[e5,he,e3]) (fun h=>?_) (fun h=>?_) (UE e1) (by rw[e3];exact XH e2)
   ·exact tW
   exact tW
theorem mH.end_{up:Int}{b:Nat}{l:List Pt}(h:mH up b l): ∀(i:Nat)(x:Pt),l[i]? =some x->((b+i:Nat):Int)<x.end_/\x.end_<=((b+l.length:Nat):Int):=by
 induction h with
 |nil up b=>intro i x h;simp at h
 |cons up b x qy rest hu he hd ho hk _ UE XH=>
  intro i y h;exact tW
structure H7 (x:Pt):Prop where
 kind:0<=x.kind/\x.kind<=2
 other:x.kind≠1->x.xI=false/\x.opts.l=[]
 qP:vW x.qP<=1000000000
 dt:x.xI=true->x.qJ=false
 od:x.xI=false->x.opts.l=[]
 tt:x.qJ=true->x.text.length<=1048576
 tl:x.text.length<=17592186044416
 ol: ∀o∈x.opts.l,o.length<=17592186044416
structure Good (P:List Pt):Prop where
 seg:mH (-1) 0 P
 ok: ∀x∈P,H7 x
 n: ∀x∈P,0<=x.n/\x.n<=100000000
 un:(defs P).Nodup
 len:P.length<=40000000
theorem H7.Xp{x y:Pt}(h:H7 x)(e:core y=core x):H7 y:=by
 have e1:y.kind=x.kind:=(congrArg (·.kind) e:(core y).kind=(core x).kind);have e2:y.xI=x.xI:=(congrArg (·.xI) e:(core y).xI=(core x).xI);have e3:y.opts=x.opts:=(congrArg (·.opts) e:(core y).opts=(core x).opts);have e4:y.qP=x.qP:=(congrArg (·.qP) e:(core y).qP=(core x).qP);have e5:y.qJ=x.qJ:=(congrArg (·.qJ) e:(core y).qJ=(core x).qJ);have e6:y.text=x.text:=(congrArg (·.text) e:(core y).text=(core x).text);exact⟨e1 ▸ h.kind,by rw[e1,e2,e3];exact h.other,e4 ▸ h.qP,by rw[e2,e5];exact h.dt,by rw[e2,e3];exact h.od,by rw[e5,e6];exact h.tt,e6 ▸ h.tl,by rw[e3];exact h.ol⟩
theorem EJ{l l' :List Pt}(h:l'.map core=l.map core){y:Pt}(hy:y∈l'): ∃x∈l,core y=core x:=by
 have:core y∈l.map core:=by rw[<- h];exact List.mem_map.2 ⟨y,hy,rfl⟩
 exact tW
section
variable {env:Sl qt} {lead unit:qa}
theorem I3(r:List Pt)(ds:List Int)(ns:List qa)(hl:r.length<=40000000)(hn: ∀x∈r,x.n<=9999): ∀(q:List Pt)(k:Nat)(m:Int),r.drop k=q->0<=m->m<=9999->(∀ i x,i<k->r[i]? =some x->x.n<=m)->
  qG (jm (m,(k:Int),env,lead,unit,r,ds,ns)) (fun v=>0<=v/\v<=9999/\ ∀x∈r,x.n<=v):=by
 intro q;induction q with
 |nil=>
  intro k m hk h0 h1 hm;rw[jm.eq_1,if_neg (by simpa using vH hk)];refine .ret ⟨h0,h1,fun x hx=>?_⟩;obtain⟨i,hi⟩:=jz hx;have:=wU hk;exact hm i x (by have:=(qF hi).1;omega) hi
 |cons x q ih=>
  intro k m hk h0 h1 hm;obtain⟨a1,a2,a3,a4⟩:=wv hk;obtain⟨b1,_,_⟩:=drop_cons hk;have hx:=hn x a4;rw[jm.eq_1,if_pos (by simpa using a1),i9 (by omega) a1];refine .go a2 ?_;refine ih (k+1) _ a3 (by split<;>omega) (by split<;>omega) ?_;intro i y hi hy;by_cases h:i=k
  ·exact tW
  have:=hm i y (by omega) hy;split<;>omega
def Ua(m n:Int):Int:=if n<0 then m-n else n
def QD(m:Int)(x:Pt):Pt:={ x with n:=Ua m x.n }
theorem ren_tot(ds:List Int)(ns:List qa)(m:Int)(h0:0<=m)(h1:m<=9999): ∀(B A:List Pt),(A++B).length<=40000000->(∀ x∈B,-40000000<=x.n)->
  qG (xM (m,(A.length:Int),env,lead,unit,A++B,ds,ns)) (fun v=>v=A++B.map (QD m)):=by
 intro B;induction B with
 |nil=>
  intro A hl hn;rw[xM.eq_1,if_neg (by simp)];exact .ret rfl
 |cons x B ih=>
  intro A hl hn;have hx:=hn x (by simp);rw[xM.eq_1,if_pos (by simp;omega)];refine .go (Qc _ _ _) ?_;simp only[List.length_append,List.length_cons]at hl;rw[wr (n:=(A.length:Int)+1) (by omega) (by omega)];have e:A++(x::B).map (QD m)=(A++[QD m x])++B.map (QD m):=by simp
  have e2:((A.length:Int)+1)=((A++[QD m x]).length:Int):=by simp
  rw[e];refine .tI ?_ ?_<;>intro hT
  ·rw[Int.toNat_natCast,XQ,wr (n:=m-x.n) (by omega) (by omega),e2];have e3:A++(qb.mk x.kind x.text (m-x.n) x.xI x.first x.qJ x.qP x.opts x.up x.end_)::B=(A++[QD m x])++B:=by simp[QD,Ua,hT]
   rw[e3];exact ih _ (by simp;omega) fun y hy=>hn y (by simp[hy])
  rw[e2];have e3:A++x::B=(A++[QD m x])++B:=by
   have: ¬x.n<0:=by omega
   simp[QD,Ua,this]
  rw[e3];exact ih _ (by simp;omega) fun y hy=>hn y (by simp[hy])
theorem lq(n:Int)(r:List Pt)(ds:List Int)(ns:List qa)(hl:r.length<=40000000):
  qG (kH n env lead unit r ds ns) (fun v=>(v= -1/\ ∀x∈r,x.kind=1->x.xI=true->x.n≠n)\/ ∃(d:Nat)(x:Pt),v=d/\r[d]? =some x/\x.kind=1/\x.xI=true/\x.n=n):=by
 have key: ∀(q:List Pt)(k:Nat),r.drop k=q->qG (zP (n,(k:Int),env,lead,unit,r,ds,ns)) (fun v=>match v with| .inl v=> ∃(d:Nat)(x:Pt),v=d/\r[d]? =some x/\x.kind=1/\x.xI=true/\x.n=n| .inr _=> ∀x∈q,x.kind=1->x.xI=true->x.n≠n):=by
  intro q;induction q with
  |nil=>
   intro k hk;rw[zP.eq_1,if_neg (by simpa using vH hk)];exact .ret (by simp)
  |cons x q ih=>
   intro k hk;obtain⟨a1,a2,a3,a4⟩:=wv hk;obtain⟨b1,_,_⟩:=drop_cons hk;have next: ¬(x.kind=1/\x.xI=true/\x.n=n)->qG (zP (n,((k+1:Nat):Int),env,lead,unit,r,ds,ns)) (fun v=>match v with| .inl v=> ∃(d:Nat)(x:Pt),v=d/\r[d]? =some x/\x.kind=1/\x.xI=true/\x.n=n| .inr _=> ∀y∈x::q,y.kind=1->y.xI=true->y.n≠n):=by
    intro h;exact tW
   rw[zP.eq_1,if_pos (by simpa using a1),i9 (by omega) a1];exact tW
 unfold kH;refine .bind (key r 0 rfl) fun v hv=>?_;rcases v with v|v
 ·exact .ret (.inr hv)
 exact .ret (.inl ⟨rfl,hv⟩)
theorem SF(ds:List Int)(ns:List qa): ∀(B A:List Pt)(zE:List Int),(A++B).length<=40000000->zE.length<=A.length->
  qG (zg ((A.length:Int),env,lead,unit,A++B,ds,ns,zE)) (fun v=>v.1.map core=(A++B).map core/\v.1.map (·.n)=(A++B).map (·.n)):=by
 intro B;induction B with
 |nil=>
  intro A zE hl ht;rw[zg.eq_1,if_neg (by simp)];exact .ret ⟨rfl,rfl⟩
 |cons x B ih=>
  intro A zE hl ht;rw[zg.eq_1,if_pos (by simp;omega)];refine .go (Qc _ _ _) ?_;have hl' :=hl;simp only[List.length_append,List.length_cons]at hl;rw[wr (n:=(A.length:Int)+1) (by omega) (by omega)];have e1: ∀y:Pt,((A.length:Int)+1)=((A++[y]).length:Int):=fun y=>by simp
  have e2: ∀y:Pt,A++y::B=(A++[y])++B:=fun y=>by simp
  have skip: ∀t:List Int,t.length<=A.length+1->qG (zg ((A.length:Int)+1,env,lead,unit,A++x::B,ds,ns,t)) (fun v=>v.1.map core=(A++x::B).map core/\v.1.map (·.n)=(A++x::B).map (·.n)):=by
   intro t h;rw[e1 x,e2 x];exact ih (A++[x]) t (by simp;omega) (by simpa using h)
  have mark:qG (zg ((A.length:Int)+1,env,lead,unit,((A++x::B).set (A.length:Int).toNat (qb.mk x.kind x.text x.n x.xI true x.qJ x.qP x.opts x.up x.end_)),ds,ns,zE++[x.n])) (fun v=>v.1.map core=(A++x::B).map core/\v.1.map (·.n)=(A++x::B).map (·.n)):=by
   rw[Int.toNat_natCast,XQ,e1 x,show(A++[x]).length=(A++[qb.mk x.kind x.text x.n x.xI true x.qJ x.qP x.opts x.up x.end_]).length by simp,e2];refine(ih _ _ (by simp;omega) (by simp;omega)).mono fun v hv=>⟨hv.1.trans ?_,hv.2.trans ?_⟩
   ·simp[core]
   simp
  have wV:qg (zE.length+1) 8=true:=by simp only[qg,zB,decide_eq_true_eq];omega
  refine .tI ?_ ?_<;>intro hT
  ·refine .tI ?_ ?_<;>intro hT
   ·exact .zm wV mark
   refine .tI ?_ ?_<;>intro hT
   ·refine .bind (lq x.n _ ds ns hl') fun v _=>?_;refine .tI ?_ ?_<;>intro hT
    ·refine .bind (mV x.n zE (by omega)) fun w _=>?_;refine .tI ?_ ?_<;>intro hT
     ·exact .zm wV mark
     exact skip zE (by omega)
    exact skip zE (by omega)
   exact skip zE (by omega)
  exact skip zE (by omega)
theorem ren_inj{m a b:Int}(ha:a<=m)(hb:b<=m)(h0:0<=m)(h:Ua m a=Ua m b):a=b:=by
 unfold Ua at h;split at h<;>split at h<;>omega
theorem WG: ∀{l l' :List Pt},l'.map core=l.map core->l'.map (·.n)=l.map (·.n)->defs l' =defs l
 |[],[],_,_=>rfl
 |[],_::_,h,_=>by simp at h
 |_::_,[],h,_=>by simp at h
 |x::l,y::l',h1,h2=>by
  simp only[List.map_cons,List.cons.injEq]at h1 h2;have e:y.xI=x.xI:=(congrArg (·.xI) h1.1:(core y).xI=(core x).xI);have ih:=WG h1.2 h2.2;unfold defs at ih |-;simp only[List.filter_cons,e];cases x.xI
  ·simpa using ih
  simp[h2.1,ih]
theorem Ay(m:Int)(l:List Pt):defs (l.map (QD m))=(defs l).map (Ua m):=by
 induction l with
 |nil=>rfl
 |cons x l ih=>
  unfold defs at ih |-;simp only[List.map_cons,List.filter_cons,QD];exact tW
theorem Vh{α β:Type}{f:α->β}: ∀{l:List α},l.Nodup->(∀ a∈l,∀ b∈l,f a=f b->a=b)->(l.map f).Nodup
 |[],_,_=>by simp
 |x::l,h,hf=>by
  rw[List.nodup_cons]at h;rw[List.map_cons,List.nodup_cons];refine⟨fun hm=>?_,Vh h.2 fun a ha b hb=>hf a (by simp[ha]) b (by simp[hb])⟩;obtain⟨y,hy,e⟩:=List.mem_map.1 hm;have:=hf x (by simp) y (by simp[hy]) e.symm;exact h.1 (this ▸ hy)
theorem YI(r:List Pt)(ds:List Int)(ns:List qa)(hs:mH (-1) 0 r)(hI:tM r ds ns)(hl:r.length<=40000000):qG (uq env lead unit r ds ns) Good:=by
 have hnl:=hI.nl;unfold uq;refine .bind (I3 r ds ns hl (fun x hx=>(hI.ok x hx).n.2) r 0 0 rfl (by omega) (by omega) (by omega)) fun m hm=>?_;have h2:=ren_tot (env:=env) (lead:=lead) (unit:=unit) ds ns m hm.1 hm.2.1 r [] (by simpa using hl) (fun x hx=>by have:=(hI.ok x hx).n;omega);simp only[List.nil_append,List.length_nil]at h2;refine .bind h2 fun p hp=>?_;subst hp;have h4:=SF (env:=env) (lead:=lead) (unit:=unit) ds ns (r.map (QD m)) [] [] (by simpa using hl) (by simp);simp only[List.nil_append,List.length_nil]at h4;refine .bind h4 fun v hv=> .ret ?_;have hc:v.1.map core=r.map core:=by rw[hv.1,List.map_map];exact List.map_congr_left fun x _=>rfl
 have hd:defs v.1=(defs r).map (Ua m):=by rw[WG hv.1 hv.2,Ay]
 refine⟨hs.Xp hc,fun y hy=>?_,fun y hy=>?_, ?_, ?_⟩
 ·obtain⟨x,hx,e⟩:=EJ hc hy;have h:=hI.ok x hx;exact H7.Xp ⟨h.kind,fun k=>(h.other k).2,h.qP,h.dt,h.od,h.tt,h.tl,h.ol⟩ e
 ·have:y.n∈(r.map (QD m)).map (·.n):=by rw[<- hv.2];exact List.mem_map.2 ⟨y,hy,rfl⟩
  simp only[List.map_map,List.mem_map,Function.comp]at this;obtain⟨x,hx,e⟩:=this;have h:=(hI.ok x hx).n;rw[<- e];simp only[QD,Ua];split<;>omega
 ·rw[hd];have hle: ∀a∈defs r,a<=m:=by
   intro a ha;obtain⟨x,hx,rfl⟩:=List.mem_map.1 ha;exact hm.2.2 x (List.mem_filter.1 hx).1
  exact Vh hI.un fun a ha b hb=>ren_inj (hle a ha) (hle b hb) hm.1
 have:=congrArg List.length hc;simp only[List.length_map]at this;omega
end
def Holds(P:List Pt)(n m:Int):Prop:= ∃(d e:Nat)(x y:Pt),P[d]? =some x/\x.kind=1/\x.xI=true/\x.n=n/\d<e/\(e:Int)<x.end_/\P[e]? =some y/\y.kind=1/\y.n=m
def VT(P:List Pt):Prop:= ∀n,¬ Relation.TransGen (Holds P) n n
theorem Zi: ∀{a b:List Int},a.Nodup->(∀ x∈a,x∈b)->a.length<=b.length
 |[],b,_,_=>Nat.zero_le _
 |x::a,b,h,hb=>by
  rw[List.nodup_cons]at h;have hx:=hb x (by simp);have h1: ∀y∈a,y∈b.erase x:=fun y hy=>by
   have jv:y≠x:=fun e=>h.1 (e ▸ hy);exact(List.mem_erase_of_ne jv).2 (hb y (by simp[hy]))
  have h2:=Zi h.2 h1;have h3:=List.length_erase_of_mem hx;have h4:=List.length_pos_of_mem hx;simp only[List.length_cons];omega
section
variable {env:Sl qt} {lead unit:qa}
theorem Ey(P:List Pt)(ds:List Int)(ns:List qa)(hl:P.length<=40000000)(d:Nat)(x:Pt)(hd:P[d]? =some x)(he:x.end_<=P.length): ∀(m i:Nat)(l:List Int),m=(x.end_-i).toNat->l.length<=100000000-m->
  qG (kl ((d:Int),(i:Int),env,lead,unit,P,ds,ns,l)) (fun v=>(∀ n,n∈v↔n∈l\/ ∃(j:Nat)(y:Pt),i<=j/\(j:Int)<x.end_/\P[j]? =some y/\y.kind=1/\y.n=n)/\(l.Nodup->v.Nodup)):=by
 intro m;induction m using Nat.strongRecOn with
 |_ m ih=>
 intro i l hm SQ;have Ls:=(qF hd).1;have hgd:qi P (d:Int)=some x:=by rw[j8 Ls];simpa[kU Ls]using hd
 rw[kl.eq_1];refine .go hgd ?_;have:= @wr;have:= @mV;exact tW
theorem in2_L0(P:List Pt)(ds:List Int)(ns:List qa)(hl:P.length<=40000000)(d:Nat)(x:Pt)(hd:P[d]? =some x)(he:x.end_<=P.length): ∀(m i:Nat)(l:List Int),m=(x.end_-i).toNat->l.length<=100000000-m->
  qG (xR ((d:Int),(i:Int),env,lead,unit,l,P,ds,ns)) (fun v=>(∀ n,n∈v↔n∈l\/ ∃(j:Nat)(y:Pt),i<=j/\(j:Int)<x.end_/\P[j]? =some y/\y.kind=1/\y.n=n)/\(l.Nodup->v.Nodup)/\ ∃t,v=l++t):=by
 intro m;induction m using Nat.strongRecOn with
 |_ m ih=>
 intro i l hm SQ;have Ls:=(qF hd).1;have hgd:qi P (d:Int)=some x:=by rw[j8 Ls];simpa[kU Ls]using hd
 rw[xR.eq_1];refine .go hgd ?_;refine .tI ?_ ?_<;>intro hT
 ·have hi:=hT;refine .bind .get fun y hy=>?_;have hyi:P[i]? =some y:=by simpa using hy.1
  rw[wr (n:=(i:Int)+1) (by omega) (by omega),show((i:Int)+1)=((i+1:Nat):Int) by omega];have next: ∀l',l'.length<=l.length+1->(∀ n,n∈l' ↔n∈l\/(y.kind=1/\y.n=n))->(l.Nodup->l'.Nodup)->(∃ t,l' =l++t)->
    qG (xR ((d:Int),((i+1:Nat):Int),env,lead,unit,l',P,ds,ns)) (fun v=>(∀ n,n∈v↔n∈l\/ ∃(j:Nat)(y:Pt),i<=j/\(j:Int)<x.end_/\P[j]? =some y/\y.kind=1/\y.n=n)/\(l.Nodup->v.Nodup)/\ ∃t,v=l++t):=by
   intro l' h1 h2 h3 h4;refine(ih _ (by omega) (i+1) l' rfl (by omega)).mono fun v hv=>⟨fun n=>?_,fun h=>hv.2.1 (h3 h), ?_⟩
   ·rw[hv.1 n,h2 n];constructor
    ·rintro((h|h)|⟨j,z,j1,j2,j3,j4,j5⟩)
     ·exact .inl h
     ·exact .inr ⟨i,y,xJ _,hi,hyi,h.1,h.2⟩
     exact .inr ⟨j,z,by omega,j2,j3,j4,j5⟩
    rintro(h|⟨j,z,j1,j2,j3,j4,j5⟩)
    ·exact .inl (.inl h)
    rcases Nat.eq_or_lt_of_le j1 with rfl|j1
    ·rw[hyi]at j3;cases j3;exact .inl (.inr ⟨j4,j5⟩)
    exact .inr ⟨j,z,j1,j2,j3,j4,j5⟩
   obtain⟨t1,rfl⟩:=h4;obtain⟨t2,h⟩:=hv.2.2;exact⟨t1++t2,by rw[h,List.append_assoc]⟩
  refine .tI ?_ ?_<;>intro hT
  ·have hk:=hT;refine .bind (mV y.n l (by omega)) fun w hw=>?_;refine .tI ?_ ?_<;>intro hT
   ·have JM:=hT;have hnot:y.n∉l:=fun h=>by have:=hw.2 h;rw[JM]at this;cases this
    refine .zm (by simp only[qg,zB,decide_eq_true_eq];omega) (next _ (by simp) (fun n=>?_) (fun h=>?_) ⟨_,rfl⟩)
    ·simp only[List.mem_append,List.mem_singleton,hk,true_and];exact or_congr_right eq_comm
    refine List.nodup_append.2 ⟨h,by simp,fun a ha b hb=>?_⟩;simp only[List.mem_singleton]at hb;subst hb;exact fun e=>hnot (e ▸ ha)
   have JM:=hw.1 hT;refine next l (by omega) (fun n=>?_) id ⟨[],by simp⟩
   constructor
   ·exact .inl
   rintro(h|⟨_,rfl⟩)
   ·exact h
   exact JM
  have hk:=hT;exact next l (by omega) (fun n=>⟨.inl,fun h=>h.elim id fun h=>absurd h.1 hk⟩) id ⟨[],by simp⟩
 have hi:=hT;refine .ret ⟨fun n=>⟨.inl,fun h=>h.elim id ?_⟩,id,[],by simp⟩;rintro⟨j,z,j1,j2,_⟩;omega
theorem Xz: ∀{P:List Pt}{i j:Nat}{x y:Pt},(defs P).Nodup->P[i]? =some x->P[j]? =some y->x.xI=true->y.xI=true->x.n=y.n->i=j
 |[],i,j,x,y,_,h1,_,_,_,_=>by simp at h1
 |z::P,i,j,x,y,hn,h1,h2,d1,d2,e=>by
  have tail:(defs P).Nodup:=by
   unfold defs at hn |-;exact tW
  have mem: ∀{k:Nat}{w:Pt},P[k]? =some w->w.xI=true->w.n∈defs P:=fun h hd=>
   List.mem_map.2 ⟨_,List.mem_filter.2 ⟨qX h,hd⟩,rfl⟩
  have head:z.xI=true->z.n∉defs P:=by
   intro hz;unfold defs at hn |-;exact tW
  cases i with
  |zero=>
   exact tW
  |succ i=>
   cases j with
   |zero=>
    exact tW
   |succ j=>
    simp only[List.getElem?_cons_succ]at h1 h2;rw[Xz tail h1 h2 d1 d2 e]
theorem Good.end_{P:List Pt}(hP:Good P){i:Nat}{x:Pt}(h:P[i]? =some x):(i:Int)<x.end_/\x.end_<=P.length:=by
 have:=hP.seg.end_ i x h;simpa using this
theorem HH(P:List Pt)(ds:List Int)(ns:List qa)(hP:Good P)(i:Int): ∀(m k:Nat)(l:List Int),m=P.length+1-k->l.Nodup->(∀ n∈l,n∈P.map (·.n))->(∀(j:Nat)(n:Int),j<k->l[j]? =some n-> ∀n',Holds P n n' ->n' ∈l)->k<=l.length->
  qG (kg (i,(k:Int),env,lead,unit,P,ds,ns,l)) (fun v=>(∀ n∈l,n∈v)/\(∀ n∈v,∀ n',Holds P n n' ->n' ∈v)/\v.length<=P.length):=by
 have hl:=hP.len;intro m;induction m using Nat.strongRecOn with
 |_ m ih=>
 intro k l hm DL iK lW mE;have SQ:l.length<=P.length:=by simpa using Zi DL iK
 rw[kg.eq_1];refine .tI ?_ ?_<;>intro hT
 ·have hk:=hT;refine .bind .get fun n hn=>?_;have hnk:l[k]? =some n:=by simpa using hn.1
  rw[wr (n:=(k:Int)+1) (by omega) (by omega),show((k:Int)+1)=((k+1:Nat):Int) by omega];refine .bind (lq n P ds ns hl) fun v hv=>?_;refine .tI ?_ ?_<;>intro hT
  ·have Yt:=hT;rcases hv with ⟨rfl,_⟩|⟨d,x,rfl,hd,x1,x2,x3⟩
   ·omega
   have he:=hP.end_ hd;have h2:=in2_L0 (env:=env) (lead:=lead) (unit:=unit) P ds ns hl d x hd he.2 _ (d+1) l rfl (by omega);have h2' :qG (bG (d:Int) env lead unit l P ds ns) (fun v=>(∀ n,n∈v↔n∈l\/ ∃(j:Nat)(y:Pt),d+1<=j/\(j:Int)<x.end_/\P[j]? =some y/\y.kind=1/\y.n=n)/\(l.Nodup->v.Nodup)/\ ∃t,v=l++t):=by
    unfold bG;rw[wr (n:=(d:Int)+1) (by have:=he.1;omega) (by omega),show((d:Int)+1)=((d+1:Nat):Int) by omega];exact .bind h2 fun v hv=> .ret hv
   refine .bind h2' fun w hw=>?_;obtain⟨t,ht⟩:=hw.2.2;have hwn:=hw.2.1 DL;have hsub2: ∀n∈w,n∈P.map (·.n):=by
    intro q hq;rcases(hw.1 q).1 hq with h|⟨j,y,_,_,j3,_,j5⟩
    ·exact iK q h
    exact List.mem_map.2 ⟨y,qX j3,j5⟩
   have Tj: ∀q∈l,q∈w:=fun q hq=>(hw.1 q).2 (.inl hq);refine(ih _ (by omega) (k+1) w rfl hwn hsub2 ?_ (by rw[ht];simp;omega)).mono fun v hv=>⟨fun q hq=>hv.1 q (Tj q hq),hv.2⟩;intro j q hj hq n' SR;by_cases BH:j=k
   ·subst BH;have hqn:q=n:=by
     rw[ht,List.getElem?_append_left (by omega),hnk]at hq;exact(Option.some.inj hq).symm
    subst hqn;obtain⟨d',e,x',y,p1,p2,p3,p4,p5,p6,p7,p8,p9⟩:=SR;have hdd:d' =d:=Xz hP.un p1 hd p3 x2 (p4.trans x3.symm);subst hdd;rw[hd]at p1;cases p1;exact(hw.1 n').2 (.inr ⟨e,y,by omega,p6,p7,p8,p9⟩)
   have Ee:l[j]? =some q:=by
    rw[ht,List.getElem?_append_left (by omega)]at hq;exact hq
   exact Tj n' (lW j q (by omega) Ee n' SR)
  have Yt:=hT;refine ih _ (by omega) (k+1) l rfl DL iK ?_ (by omega);intro j q hj hq n' SR;by_cases BH:j=k
  ·subst BH;rw[hnk]at hq;cases hq;obtain⟨d',e,x',y,p1,p2,p3,p4,_⟩:=SR;rcases hv with ⟨_,hv⟩|⟨d,x,rfl,_⟩
   ·exact absurd p4 (hv x' (qX p1) p2 p3)
   omega
  exact lW j q (by omega) hq n' SR
 refine .ret ⟨fun _ h=>h,fun n hn n' SR=>?_,SQ⟩;obtain⟨j,hj⟩:=jz hn;exact lW j n (by have:=(qF hj).1;omega) hj n' SR
theorem Mi(P:List Pt)(ds:List Int)(ns:List qa)(hP:Good P):qG (bI env lead unit P ds ns) (fun v=>v=false->VT P):=by
 have hl:=hP.len;have key: ∀(q:List Pt)(k:Nat),P.drop k=q->qG (xn ((k:Int),env,lead,unit,P,ds,ns)) (fun v=>match v with| .inl v=>v=true| .inr _=> ∀(d:Nat)(x:Pt),k<=d->P[d]? =some x->x.kind=1->x.xI=true-> ¬Relation.TransGen (Holds P) x.n x.n):=by
  intro q;induction q with
  |nil=>
   intro k hk;rw[xn.eq_1,if_neg (by simpa using vH hk)];refine .ret fun d x hd h=>?_;have:=wU hk;have:=(qF h).1;omega
  |cons x q ih=>
   intro k hk;obtain⟨a1,a2,a3,a4⟩:=wv hk;obtain⟨b1,_,_⟩:=drop_cons hk;have next:(x.kind=1->x.xI=true-> ¬Relation.TransGen (Holds P) x.n x.n)->qG (xn (((k+1:Nat):Int),env,lead,unit,P,ds,ns)) (fun v=>match v with| .inl v=>v=true| .inr _=> ∀(d:Nat)(x:Pt),k<=d->P[d]? =some x->x.kind=1->x.xI=true-> ¬Relation.TransGen (Holds P) x.n x.n):=by
    intro h;refine(ih (k+1) a3).mono fun v hv=>?_;rcases v with v|v
    ·exact hv
    intro d y hd hy h1 h2;rcases Nat.eq_or_lt_of_le hd with rfl|hd
    ·rw[b1]at hy;cases hy;exact h h1 h2
    exact hv d y hd hy h1 h2
   rw[xn.eq_1,if_pos (by simpa using a1),i9 (by omega) a1];refine .go a2 ?_;refine .tI ?_ ?_<;>intro hT
   ·have h0:=hT;exact next fun h=>absurd h h0
   have h1:=hT;refine .tI ?_ ?_<;>intro hT
   ·have h0:=hT;exact next fun _ h=>by rw[h0]at h;cases h
   have h2:=hT;have he:=hP.end_ b1;have sE:qG (mB (k:Int) env lead unit P ds ns) (fun v=>(∀ n,n∈v↔n∈([]:List Int)\/ ∃(j:Nat)(y:Pt),k+1<=j/\(j:Int)<x.end_/\P[j]? =some y/\y.kind=1/\y.n=n)/\(([]:List Int).Nodup->v.Nodup)):=by
    unfold mB;rw[wr (n:=(k:Int)+1) (by omega) (by omega),show((k:Int)+1)=((k+1:Nat):Int) by omega];exact .bind (Ey P ds ns hl k x b1 he.2 _ (k+1) [] rfl (by simp)) fun v hv=> .ret hv
   refine .bind sE fun v hv=>?_;have hvn:=hv.2 (by simp);have DP: ∀n∈v,n∈P.map (·.n):=by
    intro q hq;rcases(hv.1 q).1 hq with h|⟨j,y,_,_,j3,_,j5⟩
    ·cases h
    exact List.mem_map.2 ⟨y,qX j3,j5⟩
   have hc:=HH (env:=env) (lead:=lead) (unit:=unit) P ds ns hP (k:Int) _ 0 v rfl hvn DP (fun j n hj=>by omega) (Nat.zero_le _);refine .bind hc fun w hw=>?_;have E7:w.length<=1099511627776:=by have:=hw.2.2;omega
   refine .bind (mV x.n w E7) fun y hy=>?_;refine .tI ?_ ?_<;>intro hT
   ·exact .ret rfl
   have hy1:=hT;refine next fun _ _ hloop=>?_
   have all: ∀m,Relation.TransGen (Holds P) x.n m->m∈w:=by
    intro m hm;induction hm with
    |single h=>
     obtain⟨d',e,x',z,p1,p2,p3,p4,p5,p6,p7,p8,p9⟩:=h;have hdd:d' =k:=Xz hP.un p1 b1 p3 h2 p4;subst hdd;rw[b1]at p1;cases p1;exact hw.1 _ ((hv.1 _).2 (.inr ⟨e,z,by omega,p6,p7,p8,p9⟩))
    |tail _ h ih=>exact hw.2.1 _ ih _ h
   have:=hy.2 (all _ hloop);rw[hy1]at this;cases this
 unfold bI;refine .bind (key P 0 rfl) fun v hv=>?_;rcases v with v|v
 ·exact .ret fun h=>by rw[hv]at h;cases h
 refine .ret fun _ n hn=>?_;have: ∀m,Relation.TransGen (Holds P) n m-> ∃(d:Nat)(x:Pt),P[d]? =some x/\x.kind=1/\x.xI=true/\x.n=n:=by
  intro m hm;induction hm with
  |single h=>
   obtain⟨d',e,x',z,p1,p2,p3,p4,_⟩:=h;exact⟨d',x',p1,p2,p3,p4⟩
  |tail _ _ ih=>exact ih
 obtain⟨d,x,h1,h2,h3,rfl⟩:=this n hn;exact hv d x (Nat.zero_le _) h1 h2 h3 hn
end
inductive bu (P:List Pt):Int->Nat->Nat->Prop
 |nil (up:Int) (i:Nat):bu P up i i
 |cons (up:Int) (i e hi:Nat) (x:Pt) (hx:P[i]? =some x) (hu:x.up=up) (he:x.end_=(e:Int)) (xB:i<e) (hle:e<=hi) (hk:bu P i (i+1) e) (hd:x.xI=false->e=i+1) (ho:x.opts.l≠[]->e=i+1) (hr:bu P up e hi):bu P up i hi
theorem bu.le{P:List Pt}{up:Int}{i j:Nat}(h:bu P up i j):i<=j:=by
 cases h<;>omega
theorem mH.chain{up:Int}{b:Nat}{l:List Pt}(h:mH up b l): ∀(pre post:List Pt),pre.length=b->bu (pre++l++post) up b (b+l.length):=by
 induction h with
 |nil up b=>intro pre post _;exact .nil _ _
 |cons up b x qy rest hu he hd ho hk _ UE XH=>
  intro pre post Wa;have e1:b+(x::(qy++rest)).length=b+1+qy.length+rest.length:=by simp;omega
  have h1:=UE (pre++[x]) (rest++post) (by simp[Wa]);have h2:=XH (pre++[x]++qy) post (by simp[Wa];omega);have e2:pre++[x]++qy++(rest++post)=pre++x::(qy++rest)++post:=by simp
  have e3:pre++[x]++qy++rest++post=pre++x::(qy++rest)++post:=by simp
  rw[e2]at h1;rw[e3]at h2;rw[e1];refine .cons up b (b+1+qy.length) _ x ?_ hu he (by omega) (by omega) h1 (fun h=>?_) (fun h=>?_) h2
  ·exact tW
  ·rw[hd h];rfl
  rw[ho h];rfl
theorem mH.inner{up:Int}{b:Nat}{l:List Pt}(h:mH up b l): ∀(pre post:List Pt),pre.length=b-> ∀(i:Nat)(x:Pt),l[i]? =some x-> ∃e:Nat,x.end_=(e:Int)/\bu (pre++l++post) ((b+i:Nat):Int) (b+i+1) e/\(x.xI=false->e=b+i+1)/\(x.opts.l≠[]->e=b+i+1):=by
 induction h with
 |nil up b=>intro pre post _ i x h;simp at h
 |cons up b x qy rest hu he hd ho hk _ UE XH=>
  intro pre post Wa i y hy;have e2:pre++[x]++qy++(rest++post)=pre++x::(qy++rest)++post:=by simp
  have e3:pre++[x]++qy++rest++post=pre++x::(qy++rest)++post:=by simp
  cases i with
  |zero=>
   simp only[List.getElem?_cons_zero,kX]at hy;subst hy;refine⟨b+1+qy.length,he, ?_,fun h=>?_,fun h=>?_⟩
   ·have h1:=hk.chain (pre++[x]) (rest++post) (by simp[Wa]);rw[e2]at h1;exact h1
   ·rw[hd h];rfl
   rw[ho h];rfl
  |succ i=>
   simp only[List.getElem?_cons_succ]at hy;by_cases hi:i<qy.length
   ·rw[List.getElem?_append_left hi]at hy;obtain⟨e,f1,f2,f3,f4⟩:=UE (pre++[x]) (rest++post) (by simp[Wa]) i y hy;rw[e2]at f2;have e4:b+1+i=b+(i+1):=by omega
    rw[e4]at f2 f3 f4;exact⟨e,f1,f2,f3,f4⟩
   rw[List.getElem?_append_right (by omega)]at hy;obtain⟨e,f1,f2,f3,f4⟩:=XH (pre++[x]++qy) post (by simp[Wa];omega) (i-qy.length) y hy;exact tW
theorem Good.chain{P:List Pt}(hP:Good P):bu P (-1) 0 P.length:=by
 have:=hP.seg.chain [] [] rfl;simpa using this
theorem Good.inner{P:List Pt}(hP:Good P){i:Nat}{x:Pt}(h:P[i]? =some x): ∃e:Nat,x.end_=(e:Int)/\bu P (i:Int) (i+1) e/\(x.xI=false->e=i+1)/\(x.opts.l≠[]->e=i+1):=by
 have:=hP.seg.inner [] [] rfl i x h;simpa using this
def oC(ns:List Int)(ts:List qa)(n:Int)(t:qa):Prop:= ∃k:Nat,ns[k]? =some n/\ts[k]? =some t/\ ∀j,j<k->ns[j]? ≠some n
theorem oC.one{ns:List Int}{ts:List qa}{n:Int}{t u:qa}(h1:oC ns ts n t)(h2:oC ns ts n u):t=u:=by
 obtain⟨k,a1,a2,a3⟩:=h1;obtain⟨j,b1,b2,b3⟩:=h2;exact tW
theorem oC.app{ns:List Int}{ts:List qa}{n:Int}{t:qa}(h:oC ns ts n t)(a:List Int)(b:List qa):oC (ns++a) (ts++b) n t:=by
 obtain⟨k,a1,a2,a3⟩:=h;have k1:=(qF a1).1;have k2:=(qF a2).1;refine⟨k,by rw[List.getElem?_append_left k1];exact a1,by rw[List.getElem?_append_left k2];exact a2,fun j hj=>?_⟩;exact tW
theorem oC.new{ns:List Int}{ts:List qa}(hl:ns.length=ts.length){n:Int}(hn:n∉ns)(t:qa):oC (ns++[n]) (ts++[t]) n t:=by
 refine⟨ns.length,by simp,by simp[hl],fun j hj=>?_⟩;exact tW
theorem oC.cases{ns:List Int}{ts:List qa}(hl:ns.length=ts.length){n m:Int}{t u:qa}(hn:n∉ns)(h:oC (ns++[n]) (ts++[t]) m u):(m=n/\u=t)\/oC ns ts m u:=by
 obtain⟨k,a1,a2,a3⟩:=h;by_cases hk:k<ns.length
 ·refine .inr ⟨k,by rw[List.getElem?_append_left hk]at a1;exact a1,by rw[List.getElem?_append_left (by omega)]at a2;exact a2,fun j hj=>?_⟩;exact tW
 exact tW
def DA(P:List Pt)(ns:List Int)(ts:List qa)(i:Nat)(t:qa):Prop:=
 ∃(x:Pt)(b:qa),P[i]? =some x/\(x.kind=1->oC ns ts x.n b)/\(x.kind≠1->b=x.text)/\(x.qJ=false->t=b)/\(x.qJ=true-> ∃l,ui x.qP b 20000=some (t,l,0))
theorem DA.app{P:List Pt}{ns:List Int}{ts:List qa}{i:Nat}{t:qa}(h:DA P ns ts i t)(a:List Int)(b:List qa):DA P (ns++a) (ts++b) i t:=by
 obtain⟨x,c,h1,h2,h3,h4,h5⟩:=h;exact⟨x,c,h1,fun k=>(h2 k).app a b,h3,h4,h5⟩
theorem DA.one{P:List Pt}{ns:List Int}{ts:List qa}{i:Nat}{t u:qa}(h1:DA P ns ts i t)(h2:DA P ns ts i u):t=u:=by
 obtain⟨x,b,a1,a2,a3,a4,a5⟩:=h1;obtain⟨y,c,b1,b2,b3,b4,b5⟩:=h2;rw[a1]at b1;cases b1;have hbc:b=c:=by
  by_cases k:x.kind=1
  ·exact(a2 k).one (b2 k)
  rw[a3 k,b3 k]
 subst hbc;cases ht:x.qJ
 ·rw[a4 ht,b4 ht]
 exact tW
inductive bT (P:List Pt) (ns:List Int) (ts:List qa):Nat->Nat->qa->Prop
 |nil (i:Nat):bT P ns ts i i []
 |cons (i e hi:Nat) (x:Pt) (t u:qa) (hx:P[i]? =some x) (he:x.end_=(e:Int)) (hv:DA P ns ts i t) (hr:bT P ns ts e hi u):bT P ns ts i hi (t++u)
theorem bT.app{P:List Pt}{ns:List Int}{ts:List qa}{i j:Nat}{t:qa}(h:bT P ns ts i j t)(a:List Int)(b:List qa):bT P (ns++a) (ts++b) i j t:=by
 induction h with
 |nil i=>exact .nil i
 |cons i e hi x t u hx he hv _ ih=>exact .cons i e hi x t u hx he (hv.app a b) ih
def Txt(P:List Pt)(ns:List Int)(ts:List qa)(n:Int)(t:qa):Prop:=
 (t=[]/\ ∀x∈P,x.kind=1->x.xI=true->x.n≠n)\/ ∃(d e:Nat)(x:Pt),P[d]? =some x/\x.kind=1/\x.xI=true/\x.n=n/\x.end_=(e:Int)/\(x.opts.l≠[]\/bT P ns ts (d+1) e t)
theorem Txt.app{P:List Pt}{ns:List Int}{ts:List qa}{n:Int}{t:qa}(h:Txt P ns ts n t)(a:List Int)(b:List qa):Txt P (ns++a) (ts++b) n t:=by
 rcases h with h|⟨d,e,x,h1,h2,h3,h4,h5,h6⟩
 ·exact .inl h
 exact .inr ⟨d,e,x,h1,h2,h3,h4,h5,h6.imp id fun h=>h.app a b⟩
structure uS (P:List Pt) (ns:List Int) (ts:List qa):Prop where
 len:ns.length=ts.length
 nd:ns.Nodup
 sub: ∀n∈ns,n∈P.map (·.n)
 txt: ∀n t,oC ns ts n t->Txt P ns ts n t/\t.length<=65536
theorem uS.Kh{P:List Pt}{ns:List Int}{ts:List qa}(h:uS P ns ts):ns.length<=P.length:=by
 simpa using Zi h.nd h.sub
theorem uS.more{P:List Pt}{ns:List Int}{ts:List qa}(h:uS P ns ts){n:Int}(hn:n∉ns)(hs:n∈P.map (·.n)){t:qa}(ht:Txt P ns ts n t)(hl:t.length<=65536):uS P (ns++[n]) (ts++[t]) where
 len:=by simp[h.len]
 nd:=by
  refine List.nodup_append.2 ⟨h.nd,by simp,fun a ha b hb=>?_⟩;exact tW
 sub:=by
  intro m hm;rcases List.mem_append.1 hm with hm|hm
  ·exact h.sub m hm
  exact tW
 txt:=by
  intro m u hu;rcases hu.cases h.len hn with ⟨rfl,rfl⟩|hu
  ·exact⟨ht.app _ _,hl⟩
  exact⟨(h.txt m u hu).1.app _ _,(h.txt m u hu).2⟩
theorem Gp(n:Int)(ns:List Int)(ts:List qa)(hl:ns.length<=1099511627776)(he:ns.length=ts.length):qG (mz n ns ts) (fun v=>(v= -1/\n∉ns)\/ ∃(k:Nat)(t:qa),v=k/\ts[k]? =some t/\k<ts.length/\oC ns ts n t):=by
 have key: ∀(q:List Int)(k:Nat),ns.drop k=q->(∀ j,j<k->ns[j]? ≠some n)->qG (wj (n,(k:Int),ns,ts)) (fun v=>match v with| .inl v=> ∃(k:Nat)(t:qa),v=k/\ts[k]? =some t/\k<ts.length/\oC ns ts n t| .inr _=>n∉q):=by
  intro q;induction q with
  |nil=>
   intro k hk hj;rw[wj.eq_1,if_neg (by simpa using vH hk)];exact .ret (by simp)
  |cons c q ih=>
   intro k hk hj;obtain⟨a1,a2,a3,a4⟩:=wv hk;obtain⟨b1,_,b3⟩:=drop_cons hk;rw[wj.eq_1,if_pos (by simpa using a1),i9 (by omega) a1];refine .go a2 ?_;refine .tI ?_ ?_<;>intro hT
   ·have Tg:k<ts.length:=by omega
    have ht:ts[k]? =some ts[k]:=kU Tg;exact .ret ⟨k,ts[k],rfl,ht,Tg,k,by rw[b1,hT],ht,hj⟩
   have jv:=hT;refine(ih (k+1) a3 fun j hj2=>?_).mono fun v hv=>?_
   ·rcases Nat.lt_succ_iff_lt_or_eq.1 hj2 with h|rfl
    ·exact hj j h
    rw[b1];simpa using jv
   rcases v with v|v
   ·exact hv
   intro h;rcases List.mem_cons.1 h with h|h
   ·exact jv h.symm
   exact hv h
 unfold mz;refine .bind (key ns 0 rfl (by omega)) fun v hv=>?_;rcases v with v|v
 ·exact .ret (.inr hv)
 exact .ret (.inl ⟨rfl,hv⟩)
noncomputable def mu (P:List Pt) (n:Int):Nat:=by
 classical exact((P.map (·.n)).filter (fun m=>decide (Relation.TransGen (Holds P) n m))).length
theorem filter_le{p q:Int->Bool}(h: ∀x,p x=true->q x=true): ∀l:List Int,(l.filter p).length<=(l.filter q).length
 |[]=>by simp
 |b::l=>by
  have ih:=filter_le h l;cases hp:p b
  ·cases hq:q b
   ·simpa[hp,hq]using ih
   simp[hp,hq];omega
  have hq:=h b hp;simpa[hp,hq]using ih
theorem filter_lt{p q:Int->Bool}: ∀(l:List Int),(∀ x,p x=true->q x=true)->(∃ x∈l,q x=true/\p x=false)->(l.filter p).length<(l.filter q).length
 |[],_,h=>by obtain⟨x,hx,_⟩:=h;cases hx
 |a::l,h,⟨x,hx,h1,h2⟩=>by
  have hl:=filter_le h l;rcases List.mem_cons.1 hx with rfl|hx
  ·simp[h1,h2];omega
  have ih:=filter_lt l h ⟨x,hx,h1,h2⟩;cases hp:p a
  ·cases hq:q a
   ·simpa[hp,hq]using ih
   simp[hp,hq];omega
  have hq:=h a hp;simpa[hp,hq]using ih
theorem mu_lt{P:List Pt}(hN:VT P){n m:Int}(h:Holds P n m):mu P m<mu P n:=by
 classical
 unfold mu;refine filter_lt _ (fun x hx=>?_) ⟨m, ?_, ?_, ?_⟩
 ·simp only[decide_eq_true_eq]at hx |-;exact Relation.TransGen.trans (.single h) hx
 ·obtain⟨d,e,x,y,_,_,_,_,_,_,h7,_,h9⟩:=h;exact tW
 ·simpa using Relation.TransGen.single h
 simpa using hN m
end Go.Proofs.YtmllebdamdnhoaaGreat
