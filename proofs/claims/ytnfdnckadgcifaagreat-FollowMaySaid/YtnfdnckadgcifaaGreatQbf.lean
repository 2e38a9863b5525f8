/-
  What a snippet's parts come to: memory, values, rows.
-/
import Derived.Test.YtnfdnckadgcifaaGreatQbe
open Bool renaming not_eq_true'->O!,or_assoc->q17
open Go.Proofs.YtnfdnckadgcifaaGreat.qM renaming ite->x_,bind->G'
open Int renaming toNat_natCast->X?
open List renaming length_cons->b?,mem_append->p?,getElem?_append_left->t?,length_append->s?,mem_singleton->c?,map_cons->d?,length_nil->f?,getElem?_cons_zero->a?,getElem?_cons_succ->i?,getElem?_append_right->J?,mem_of_mem_take->Y?,mem_cons->U?,mem_map->G?,length_pos_iff->M?,nodup_append->D?,nil_append->L?,length_singleton->y!,nodup_cons->i!,filter_cons->F!,append_assoc->v_,length_take->A_,mem_filter->Z',filter_append->q0e,any_cons->q16
open Nat renaming strongRecOn->r?,add_mul->N?,zero_add->O?,zero_le->E!,eq_or_lt_of_le->q0i
open Relation renaming TransGen->S?
set_option linter.unusedSimpArgs false
set_option linter.unusedVariables false
namespace Go.Proofs.YtnfdnckadgcifaaGreat
open Go Go.Gm
namespace Xr
structure Kw (n:Int) (q:Sl qm):Prop where
 ne:q.l≠[]
 K6:q.l.length<=64
 Jr:Zt n q.l
 Yn:Yh q.l
 qn:q.nil=false
theorem eZ(n:Int)(l:Sl qm)(hl:l.l.length<2^60):qM (bJ n l) (fun v=>v.2=0->Kw n v.1):=by obtain⟨q,c,g1,g2⟩:=SR n l hl;refine⟨(q,c),g1,fun hc=>?_⟩;rcases g2 with ⟨_,h1,h2,h3,rfl⟩|⟨h,_⟩;obtain⟨k1,k2⟩:=WD l.l;obtain⟨k3,k4⟩:=Z5 n l.l h3;exact⟨k2 h1,u?,k4,k3,LY (k2 h1)⟩;exact absurd hc h
theorem leadT(b:UInt8):qM (ye b) (fun _=>True):=Go.Proofs.YtnfdnckadgcifaaGreat.cG b
theorem da(b:UInt8):qM (ug b) (fun _=>True):=by unfold ug;split<;>exact .ret trivial
section
variable (s:qa) (hs:s.length<=2^28)
include hs
theorem left_L0: ∀k:Nat,k<s.length->qM (yK (s,(k:Int))) (fun v=>0<=v/\v<=k):=by intro k;induction k with|zero=>intro _;rw[yK.eq_1,if_neg z?];exact .ret ⟨o?,o?⟩|succ k ih=>intro h;obtain⟨b,hb⟩:=gl h;rw[yK.eq_1,if_pos (by simp only[decide_eq_true_eq];omega)];refine .go (gi hb) ?_;refine .bind (leadT b) fun v _=>?_;refine .ite (fun _=>?_) fun _=> .ret ⟨o?,o?⟩;rw[show (((k+1:Nat):Int)-1)=(k:Int)from o?,wi (n:=(k:Int))];exact .mono (ih o?) fun v hv=>⟨hv.1,o?⟩
theorem Lr(a:Int)(h0:0<=a)(h1:a<=s.length):qM (iI s a) (fun v=>0<=v/\v<=s.length):=by
 unfold iI;rw[wi (n:=a-1)];have hl:qM (yK (s,a-1)) (fun v=>v<=s.length):=by by_cases c:0<a;obtain⟨k,hk⟩: ∃k:Nat,a-1=k:=⟨(a-1).toNat,o?⟩;rw[hk];exact .mono (left_L0 s hs k o?) fun v hv=>o?;rw[yK.eq_1,if_neg v?];exact .ret o?
 refine .bind hl fun v hv=> .ret ?_;constructor<;>split<;>omega
theorem right_L0: ∀(d k:Nat),k+d=s.length->qM (vF (s,(k:Int))) (fun v=>0<=v/\v<=s.length):=by intro d;induction d with|zero=>intro k h;rw[vF.eq_1,if_neg v?];exact .ret ⟨o?,o?⟩|succ d ih=>intro k h;obtain⟨b,hb⟩:=gl (l:=s) (k:=k) o?;rw[vF.eq_1,if_pos v?,ws o?];refine .go (gi hb) ?_;refine .bind (leadT b) fun v _=>?_;exact .ite (fun _=>ih (k+1) o?) fun _=> .ret ⟨o?,o?⟩
theorem Aw(a:Int)(h0:0<=a)(h1:a<=s.length):qM (ah s a) (fun v=>0<=v/\v<=s.length):=by
 unfold ah;rw[wi (n:=a+1)];have hl:qM (vF (s,a+1)) (fun v=>0<=v):=by by_cases c:a+1<=s.length;obtain⟨k,hk⟩: ∃k:Nat,a+1=k:=⟨(a+1).toNat,o?⟩;rw[hk];exact .mono (right_L0 s hs (s.length-k) k o?) fun v hv=>hv.1;rw[vF.eq_1,if_neg v?];exact .ret o?
 refine .bind hl fun v hv=> .ret ?_;constructor<;>split<;>omega
theorem step_L5: ∀k:Nat,k<=s.length->qM (nJ (s,(k:Int))) (fun v=>0<=v/\v<=s.length):=by intro k;induction k with|zero=>intro _;rw[nJ.eq_1,if_neg z?];exact .ret ⟨o?,o?⟩|succ k ih=>intro h;obtain⟨b,hb⟩:=gl (l:=s) (k:=k) o?;rw[nJ.eq_1,if_pos (by simp only[decide_eq_true_eq];omega),wi (n:=((k+1:Nat):Int)-1),show(((k+1:Nat):Int)-1)=(k:Int)from o?];refine .go (gi hb) ?_;refine .bind (da b) fun v _=>?_;exact .ite (fun _=>ih o?) fun _=> .ret ⟨o?,o?⟩
theorem step_L7: ∀k:Nat,k<=s.length->qM (nK (s,(k:Int))) (fun v=>0<=v/\v<=s.length):=by intro k;induction k with|zero=>intro _;rw[nK.eq_1,if_neg z?];exact .ret ⟨o?,o?⟩|succ k ih=>intro h;obtain⟨b,hb⟩:=gl (l:=s) (k:=k) o?;rw[nK.eq_1,if_pos (by simp only[decide_eq_true_eq];omega),wi (n:=((k+1:Nat):Int)-1),show(((k+1:Nat):Int)-1)=(k:Int)from o?];refine .go (gi hb) ?_;refine .bind (da b) fun v _=>?_;exact .ite (fun _=>ih o?) fun _=> .ret ⟨o?,o?⟩
theorem step_L1: ∀(d k:Nat),k+d=s.length->qM (nH (s,(k:Int))) (fun v=>0<=v/\v<=s.length):=by intro d;induction d with|zero=>intro k h;rw[nH.eq_1,if_neg v?];exact .ret ⟨o?,o?⟩|succ d ih=>intro k h;obtain⟨b,hb⟩:=gl (l:=s) (k:=k) o?;rw[nH.eq_1,if_pos v?,ws o?];refine .go (gi hb) ?_;refine .bind (da b) fun v _=>?_;exact .ite (fun _=>ih (k+1) o?) fun _=> .ret ⟨o?,o?⟩
theorem step_L3: ∀(d k:Nat),k+d=s.length->qM (nI (s,(k:Int))) (fun v=>0<=v/\v<=s.length):=by intro d;induction d with|zero=>intro k h;rw[nI.eq_1,if_neg v?];exact .ret ⟨o?,o?⟩|succ d ih=>intro k h;obtain⟨b,hb⟩:=gl (l:=s) (k:=k) o?;rw[nI.eq_1,if_pos v?,ws o?];refine .go (gi hb) ?_;refine .bind (da b) fun v _=>?_;exact .ite (fun _=>ih (k+1) o?) fun _=> .ret ⟨o?,o?⟩
theorem Ve(a wP:Int)(h0:0<=a)(h1:a<=s.length):qM (cd s a wP) (fun v=>0<=v.1/\v.1<=s.length):=by have ZI: ∀{o:Option Int},qM o (fun v=>0<=v/\v<=s.length)->qM (o>>=fun v=>some (v,(0:Int))) (fun v=>0<=v.1/\v.1<=s.length):=fun h=>G' h fun v hv=> .ret hv;unfold cd;refine .ite (fun _=> .ret ⟨u?,u?⟩) fun _=>?_;rw[if_neg v?];refine .bind (FM s hs a h0 h1) fun v hv=>?_;obtain⟨v1,v2⟩:=hv;have hbl:=PE s;have htb:=Vi s a.toNat;refine .ite (fun _=>ZI (Lr s hs a h0 h1)) fun _=>?_;refine .ite (fun _=>ZI (Aw s hs a h0 h1)) fun _=>?_;refine .ite (fun _=>?_) fun _=>?_;obtain⟨x,y,c,g1,g2,g3,g4,g5,_⟩:=Q6 s hs v.1;exact .go g1 (.ret ⟨u?,u?⟩);refine .ite (fun _=>?_) fun _=>?_;obtain⟨x,y,c,g1,g2,g3,g4,g5,_⟩:=Q6 s hs v.1;exact .go g2 (.ret ⟨u?,u?⟩);refine .ite (fun _=>x_ (fun _=>?_) fun _=> .ret ⟨u?,u?⟩) fun _=>?_;exact .bind (WJ s hs _ _ v2) fun w hw=> .ret hw;refine .ite (fun _=>?_) fun _=>?_;refine .go (a:=((0::JE s 0:List Int).length:Int)) (by unfold Qf;rw[Uz s hs];rfl) ?_;refine .ite (fun _=>?_) fun _=> .ret ⟨u?,u?⟩;exact .bind (WJ s hs _ _ v2) fun w hw=> .ret hw;refine .ite (fun _=> .ret ⟨u?,u?⟩) fun _=>?_;refine .ite (fun _=> .ret ⟨u?,u?⟩) fun _=>?_;obtain⟨k,rfl⟩: ∃k:Nat,a=k:=⟨a.toNat,o?⟩;refine .ite (fun _=>?_) fun _=>?_;refine .bind (step_L5 s hs k o?) fun w hw=>?_;obtain⟨j,rfl⟩: ∃j:Nat,w=j:=⟨w.toNat,o?⟩;exact ZI (step_L7 s hs j o?);refine .bind (step_L1 s hs (s.length-k) k o?) fun w hw=>?_;obtain⟨j,rfl⟩: ∃j:Nat,w=j:=⟨w.toNat,o?⟩;exact ZI (step_L3 s hs (s.length-j) j o?)
end
theorem head_in{n:Int}{q:List qm}(h:Zt n q){x:qm}(hx:x∈q):0<=x.head/\x.head<=n:=by have:=h x hx;have:=lT x;omega
theorem go_L0(s:qa)(hs:s.length<=2^28)(wP:Int)(ext:Bool)(l:Sl qm)(hl:l.l.length<=64)(hi:Zt s.length l.l): ∀(r:List qm)(i:Nat)(out:List qm),l.l.drop i=r->out.length<=i->i<=l.l.length->qM (vg (s,wP,ext,l,(i:Int),out)) (fun v=>v.length<=64):=by intro r;induction r with|nil=>intro i out h ho hi;have:=zt h;rw[vg.eq_1,if_neg v?];exact .ret o?|cons x r ih=>(intro i out h ho MQ;obtain⟨h1,h2,h3⟩:=zH h;have hx:=head_in hi (zc h1);rw[vg.eq_1,if_pos v?,ws o?];refine .go (gi h1) ?_;refine .go (JD x) ?_;refine .bind (Ve s hs x.head wP hx.1 hx.2) fun v hv=>?_;have k: ∀y:qm,qM (if qi (out.length+1) 16=true then vg (s,wP,ext,l,((i+1:Nat):Int),out++[y])else none) (fun v=>v.length<=64):=by intro y;rw[if_pos qH];exact ih (i+1) _ h2 v? o?);refine .ite (fun _=>x_ (fun _=>x_ (fun _=>x_ (fun _=>k _) fun _=>k _) fun _=>x_ (fun _=>k _) fun _=>k _) fun _=>k _) fun _=>k _
theorem go_tot(s:qa)(hs:s.length<=2^28)(wP:Int)(ext:Bool)(q:Sl qm)(hq:q.l.length<2^60):qM (X8 s wP ext q) (fun v=>v.2=0->Kw s.length v.1):=by unfold X8;refine .ite (fun _=> .ret fun h=>absurd h (by decide)) fun _=>?_;refine .bind (eZ (s.length:Int) q hq) fun v hv=>?_;refine .ite (fun c=> .ret fun h=>absurd h (by simpa using c)) fun c=>?_;have hg:=hv (by simpa using c);refine .bind (go_L0 s hs wP ext v.1 hg.K6 hg.Jr v.1.l 0 [] rfl z? z?) fun w hw=>?_;exact .bind (eZ (s.length:Int) ⟨w.isEmpty,w⟩ u?) fun u hu=> .ret hu
theorem typed_L0(l:Sl qm)(text:qa)(hl:l.l.length<=64): ∀(r:List qm)(i:Nat)(es:List qz),l.l.drop i=r->es.length=i->qM (uo (l,text,(i:Int),es)) (fun v=>v.length=es.length+r.length/\ ∀e∈v,e∈es\/e.text=text):=by intro r;induction r with|nil=>intro i es h ho;have:=zt h;rw[uo.eq_1,if_neg v?];exact .ret ⟨z?,fun e he=> .inl he⟩|cons x r ih=>intro i es h ho;obtain⟨h1,h2,h3⟩:=zH h;rw[uo.eq_1,if_pos v?,ws o?];refine .go (gi h1) ?_;refine .go (JD x) ?_;rw[if_pos qH];refine .mono (ih (i+1) _ h2 v?) fun v hv=>⟨by have:=hv.1;simp at this |-; omega,fun e he=>?_⟩;rcases hv.2 e he with h|h;rcases p?.1 h with h|h;exact .inl h;simp only[c?]at h;subst h;exact .inr rfl;exact .inr h
theorem Gh(l:List qz)(n:Nat)(h: ∀e∈l,e.text.length<=n):vh l<=l.length*n:=by induction l with|nil=>simp[vh]|cons e l ih=>have h1:=h e z?;have h2:=ih fun e' VU=>h e' (by simp[VU]);simp only[vh,d?,List.sum_cons,b?]at*;rw[N?];omega
theorem E4(l:Sl qm)(text:qa)(hl:l.l.length<=64)(ht:text.length<=65536):qM (cJ l text) (fun v=>v.l.length<=64/\vh v.l<=4194304):=by
 unfold cJ;refine .bind (typed_L0 l text hl l.l 0 [] rfl rfl) fun v hv=> .ret ?_;have h1:=hv.1;have h2:=Gh v 65536 fun e he=>by rcases hv.2 e he with h|h;simp at h;rw[h];exact ht
 simp only[f?,O?]at h1;refine⟨u?, ?_⟩;have:v.length*65536<=64*65536:=mulR _ o?;simp only;omega
theorem DN(s:qa)(hs:s.length<=2^28)(l:Sl qm)(f:Bool)(hl:l.l.length<=64)(hi:Zt s.length l.l): ∀(r:List qm)(i:Nat)(sp:List qk),l.l.drop i=r->sp.length<=i->i<=l.l.length->qM (xy (s,l,f,(i:Int),sp)) (fun v=>v.length<=64):=by intro r;induction r with|nil=>intro i sp h ho MQ;have:=zt h;rw[xy.eq_1,if_neg v?];exact .ret o?|cons x r ih=>(intro i sp h ho MQ;obtain⟨h1,h2,h3⟩:=zH h;have hx:=hi x (zc h1);have hle:=lT x;rw[xy.eq_1,if_pos v?,ws o?];refine .go (gi h1) ?_;refine .go (JD x) ?_;refine .bind (Ve s hs (vq x).qO 1 hx.1 o?) fun a ha=>?_;refine .bind (Ve s hs (vq x).qO 2 hx.1 o?) fun b hb=>?_;have k: ∀y:qk,qM (if qi (sp.length+1) 16=true then xy (s,l,f,((i+1:Nat):Int),sp++[y])else none) (fun v=>v.length<=64):=by intro y;rw[if_pos qH];exact ih (i+1) _ h2 v? o?);have k0:qM (xy (s,l,f,((i+1:Nat):Int),sp)) (fun v=>v.length<=64):=ih (i+1) _ h2 o? o?;exact .ite (fun _=>x_ (fun _=>x_ (fun _=>k _) fun _=>k0) fun _=>x_ (fun _=>k _) fun _=>k0) fun _=>x_ (fun _=>k _) fun _=>k0
end Xr
namespace Xr
theorem touch5(a b:qk):sZ a b=some (decide (iS a b)):=rfl
theorem union_L0(s:Sl qk)(hs:s.l.length<=2^20): ∀(r:List qk)(i:Nat)(out:List qk),s.l.drop i=r->out.length<=i->i<=s.l.length->qM (kB (s,(i:Int),out)) (fun v=>v.length<=s.l.length):=by intro r;induction r with|nil=>intro i out h ho hi;have:=zt h;rw[kB.eq_1,if_neg v?];exact .ret o?|cons x r ih=>(intro i out h ho hi;obtain⟨h1,h2,h3⟩:=zH h;rw[kB.eq_1,if_pos v?,ws o?];refine .go (gi h1) ?_;have k: ∀y:qk,qM (if qi (out.length+1) 16=true then kB (s,((i+1:Nat):Int),out++[y])else none) (fun v=>v.length<=s.l.length):=by intro y;rw[if_pos qH];exact ih (i+1) _ h2 v? o?);(refine .ite (fun _=>ih (i+1) _ h2 o? o?) fun _=>?_;refine .ite (fun c=>?_) fun _=>k _;have c0:0<out.length:=by simpa using c);rw[wi (n:=(out.length:Int)-1),show(out.length:Int)-1=((out.length-1:Nat):Int)from o?];obtain⟨y,hy⟩:=gl (l:=out) (k:=out.length-1) o?;refine .go (gi hy) ?_;refine .go (touch5 _ _) ?_;exact .ite (fun _=>ih (i+1) _ h2 (by rw[List.length_set];omega) o?) fun _=>k _
theorem J3(l:Sl qk)(hl:l.l.length<=64):qM (a7 l) (fun v=>v.l.length<=64):=by unfold a7;have hp:=(tY id l.l []).length_eq;simp only[L?]at hp;refine .go (Mt l o?) ?_;refine .bind (union_L0 _ u? _ 0 [] rfl z? z?) fun v hv=> .ret ?_;simp only at hv |-;omega
theorem DO(u:Sl qk)(hu:u.l.length<=64): ∀(r:List qk)(i:Nat)(es:List qz),u.l.drop i=r->es.length<=i->i<=u.l.length->(∀ e∈es,e.text=[])->qM (yk (u,(i:Int),es)) (fun v=>v.length<=64/\ ∀e∈v,e.text=[]):=by intro r;induction r with|nil=>intro i es h ho hi he;have:=zt h;rw[yk.eq_1,if_neg v?];exact .ret ⟨o?,he⟩|cons x r ih=>intro i es h ho hi he;obtain⟨h1,h2,h3⟩:=zH h;rw[yk.eq_1,if_pos v?,ws o?];refine .go (gi h1) ?_;rw[if_pos qH];refine ih (i+1) _ h2 v? o? fun e h=>?_;rcases p?.1 h with h|h;exact he e h;simp only[c?]at h;subst h;rfl
theorem PW(s:qa)(hs:s.length<=2^28)(l:Sl qm)(f:Bool)(hl:l.l.length<=64)(hi:Zt s.length l.l):qM (rP s l f) (fun v=>v.l.length<=64/\vh v.l<=4194304):=by
 unfold rP;refine .bind (DN s hs l f hl hi l.l 0 [] rfl z? z?) fun v hv=>?_;refine .bind (J3 ⟨v.isEmpty,v⟩ hv) fun u hu=>?_;refine .bind (DO u hu u.l 0 [] rfl z? z? z?) fun w hw=> .ret ⟨hw.1, ?_⟩;have:=Gh w 0 fun e he=>by rw[hw.2 e he];simp
 simp only;omega
def free(x:qt):Prop:=x.qQ=false
structure Nums (is:List qu) (ns:List Int):Prop where
 of: ∀n∈ns,vS n is≠[]
 len:ns.length<=2^24+1
theorem CO{n:Int}{is:List qu}{i:qu}(hi:i∈is){x:qt}(hx:x∈i.stops.l)(h1:x.n=n)(h2:x.qQ=false):vS n is≠[]:=by
 intro h;have:x.span∈vS n is:=by unfold vS ec;simp only[List.mem_flatMap,G?,Z',isN,zU,O!,beq_iff_eq];exact⟨i,hi,x,⟨hx,h2,h1⟩,rfl⟩
 rw[h]at this;simp at this
structure Pk (is:List qu) (m:Nat) (ns:List Int) (z met:Bool):Prop where
 of: ∀n∈ns,vS n is≠[]
 zero:z=true->vS 0 is≠[]
 len:ns.length<=m
 met:met=true->ns≠[]\/z=true
theorem Tx(is:Sl qu)(hL:many is.l<=2^24)(i:Nat)(x:qu)(hx:is.l[i]? =some x)(hxl:x.stops.l.length<=2^12): ∀(r:List qt)(k:Nat)(m:Nat)(ns:Sl Int)(z met:Bool),x.stops.l.drop k=r->m+r.length<=2^24->Pk is.l m ns.l z met->
  qM (xw (is,ns,z,(i:Int),(k:Int))) (fun v=>Pk is.l (m+r.length) v.1.l v.2 (met || r.any fun y=> !y.qQ)):=by intro r;induction r with|nil=>intro k m ns z met h hm W;have:=zt h;rw[xw.eq_1];refine .go (gi hx) ?_;rw[if_neg v?];exact .ret (by simpa using W)|cons y r ih=>(intro k m ns z met h hm W;simp only[b?]at hm;obtain⟨h1,h2,h3⟩:=zH h;have SB:=zc hx;have El:=zc h1;rw[xw.eq_1];refine .go (gi hx) ?_;rw[if_pos v?,ws o?];refine .go (gi h1) ?_;have hlen:=W.len;have ZI: ∀(ns' :Sl Int)(z' :Bool),Pk is.l (m+1) ns'.l z' (met || !y.qQ)->qM (xw (is,ns',z',(i:Int),((k+1:Nat):Int))) (fun v=>Pk is.l (m+(y::r).length) v.1.l v.2 (met || (y::r).any fun y=> !y.qQ)):=by intro ns' z' W';have:=ih (k+1) (m+1) ns' z' (met || !y.qQ) h2 o? W';rw[show m+(y::r).length=m+1+r.length from by simp only[b?];omega,q16,<- q17];exact this);(have put: ∀z' :Bool,y.qQ=false->(z' =true->vS 0 is.l≠[])->qM (rb ns y.n>>=fun v=>xw (is,v,z',(i:Int),((k+1:Nat):Int))) (fun v=>Pk is.l (m+(y::r).length) v.1.l v.2 (met || (y::r).any fun y=> !y.qQ)):=by intro z' ht hz;refine .bind (C2 ns y.n o?) fun v hv=>?_;obtain⟨v1,v2,v3,v4⟩:=hv;refine ZI v z' ⟨fun n hn=>?_,hz,o?,fun _=> .inl ?_⟩;rcases v2 n hn with rfl|h;exact CO SB El rfl ht;exact W.of n h;intro h;rw[h]at v3;simp at v3);refine .ite (fun c=>?_) fun c=>?_;(have ht:y.qQ=false:=by simpa using c);refine .ite (fun c2=>?_) fun c2=>?_;have h0:vS 0 is.l≠[]:=CO SB El (by simpa using c2) ht;refine .ite (fun _=>put true ht fun _=>h0) fun _=>?_;exact ZI ns true ⟨W.of,fun _=>h0,o?,fun _=> .inr rfl⟩;refine .ite (fun _=>put z ht W.zero) fun c3=>?_;simp at c2 c3;exact absurd c3 c2;(have ht:y.qQ=true:=by simpa using c);exact ZI ns z ⟨W.of,W.zero,o?,by rw[ht];simpa using W.met⟩
theorem Tw(is:Sl qu)(hL:many is.l<=2^24)(hb: ∀i∈is.l,i.stops.l.length<=2^12)(hn:is.l.length<=2^12): ∀(r:List qu)(i m:Nat)(ns:Sl Int)(z met:Bool),is.l.drop i=r->m+many r<=2^24->Pk is.l m ns.l z met->
  qM (wZ (is,ns,z,(i:Int))) (fun v=>Pk is.l (m+many r) v.1.l v.2 (met || r.any fun x=>x.stops.l.any fun y=> !y.qQ)):=by intro r;induction r with|nil=>intro i m ns z met h hm W;have:=zt h;rw[wZ.eq_1,if_neg v?];exact .ret (by simpa[many]using W)|cons x r ih=>(intro i m ns z met h hm W;obtain⟨h1,h2,h3⟩:=zH h;have hx:=hb x (zc h1);have hmc:many (x::r)=x.stops.l.length+many r:=by simp[many]);rw[wZ.eq_1,if_pos v?,ws o?];refine .bind (Tx is hL i x h1 hx x.stops.l 0 m ns z met rfl o? W) fun v hv=>?_;have:=ih (i+1) (m+x.stops.l.length) v.1 v.2 _ h2 o? hv;rw[hmc,<- Nat.add_assoc,q16,<- q17];exact this
theorem lK(is:Sl qu)(hb: ∀i∈is.l,i.stops.l.length<=2^12)(hn:is.l.length<=2^12):qM (gV is) (fun v=>Nums is.l v.l/\((∃ i∈is.l,∃ x∈i.stops.l,x.qQ=false)->v.l≠[])):=by
 have h1:=Qc hb;have h2:is.l.length*2^12<=2^12*2^12:=Nat.mul_le_mul hn (ju _);have hm:many is.l<=2^24:=o?;unfold gV;refine .bind (Tw is hm hb hn is.l 0 0 ⟨true,[]⟩ false false rfl o? ⟨z?,z?,z?,z?⟩) fun v hv=>?_;have hlen:=hv.len;have hmet:(∃ i∈is.l,∃ x∈i.stops.l,x.qQ=false)->v.1.l≠[]\/v.2=true:=by rintro⟨i,hi,x,hx,h⟩;refine hv.met ?_;simp only[Bool.false_or,List.any_eq_true];exact⟨i,hi,x,hx,by simp[h]⟩
 refine .ite (fun c=>?_) fun c=>?_;refine .zE qH (qM.zE qH (.ret ⟨⟨fun n hn=>?_,v?⟩,fun _=>z?⟩));rcases p?.1 hn with h|h;exact hv.of n h;simp only[c?]at h;subst h;exact hv.zero c;refine .ret ⟨⟨hv.of,o?⟩,fun h=>?_⟩;rcases hmet h with h|h;exact h;exact absurd h c
theorem Yk(a b:Int):qM (rh a b) (fun _=>True):=by unfold rh;split;split<;>exact .ret trivial;exact .ret trivial
theorem q02(cur:Int)(is:Sl qu)(hb: ∀i∈is.l,i.stops.l.length<=2^12)(hn:is.l.length<=2^12):qM (fO cur is) (fun v=>v.2=true->vS v.1 is.l≠[]):=by
 have loop: ∀(ns:Sl Int),Nums is.l ns.l-> ∀(d k:Nat),k+d=ns.l.length->qM (gU (cur,ns,(k:Int))) (fun v=>match v with| .inl y=>y.2=true->vS y.1 is.l≠[]| .inr _=>True):=by intro ns hN d;have:=hN.len;induction d with|zero=>intro k h;rw[gU.eq_1,if_neg v?];exact .ret trivial|succ d ih=>intro k h;obtain⟨x,hx⟩:=gl (l:=ns.l) (k:=k) o?;rw[gU.eq_1,if_pos v?,ws o?];refine .go (gi hx) ?_;refine .bind (Yk _ _) fun v _=>?_;exact .ite (fun _=> .ret fun _=>hN.of x (zc hx)) fun _=>ih (k+1) o?
 unfold fO;refine .bind (lK is hb hn) fun v hv=>?_;refine .bind (loop v hv.1 v.l.length 0 o?) fun w hw=>?_;rcases w with w|w;exact .ret hw;exact .ret fun h=>absurd h (by decide)
theorem prev_tot(cur:Int)(is:Sl qu)(hb: ∀i∈is.l,i.stops.l.length<=2^12)(hn:is.l.length<=2^12):qM (fP cur is) (fun v=>v.2=true->vS v.1 is.l≠[]):=by
 have loop: ∀(ns:Sl Int),Nums is.l ns.l-> ∀k:Nat,k<=ns.l.length->qM (gX (cur,ns,(k:Int)-1)) (fun v=>match v with| .inl y=>y.2=true->vS y.1 is.l≠[]| .inr _=>True):=by intro ns hN k;have:=hN.len;induction k with|zero=>intro h;rw[gX.eq_1,if_neg z?];exact .ret trivial|succ k ih=>intro h;obtain⟨x,hx⟩:=gl (l:=ns.l) (k:=k) o?;rw[show ((k+1:Nat):Int)-1=(k:Int)from o?,gX.eq_1,if_pos z?,wi (n:=(k:Int)-1)];refine .go (gi hx) ?_;refine .bind (Yk _ _) fun v _=>?_;exact .ite (fun _=> .ret fun _=>hN.of x (zc hx)) fun _=>ih o?
 unfold fP;refine .bind (lK is hb hn) fun v hv=>?_;have:=hv.1.len;rw[wi (n:=(v.l.length:Int)-1)];refine .bind (loop v hv.1 v.l.length (ju _)) fun w hw=>?_;rcases w with w|w;exact .ret hw;exact .ret fun h=>absurd h (by decide)
end Xr
set_option maxHeartbeats 1000000
namespace Xr
theorem yw.sel{st:qq}(h:yw st){q:Sl qm}(g:Kw st.text.length q):yw ⟨st.text,q,st.qf⟩:=
 ⟨⟨h.may.text,h.may.sm,g.ne,g.K6,g.Jr,g.Yn,h.may.may,h.may.Fz⟩,h.small,h.stop,h.KZ,g.qn⟩
theorem RZ.take{ss:List qc}(h:RZ ss)(k:Nat):RZ (ss.take k):=by intro j s hs;have hj:=(qL hs).1;rw[A_]at hj;rw[List.getElem?_take_of_lt o?]at hs;obtain⟨h1,h2⟩:=h j s hs;exact tW
theorem yw.take{st:qq}(h:yw st)(k:Nat)(b:Bool):yw ⟨st.text,st.zC,⟨b,st.qf.l.take k⟩⟩:=
 ⟨⟨h.may.text,by simp only[A_];have:=h.may.sm;omega,h.may.ne,h.may.K6,h.may.Jr,h.may.Yn,fun s hs=>h.may.may s (Y? hs),h.may.Fz.take k⟩,
  fun s hs=>h.small s (Y? hs),fun s hs=>h.stop s (Y? hs),fun s hs=>h.KZ s (Y? hs),h.qn⟩
theorem yw.cur{st:qq}(h:yw st)(ss:List qc)(s:qc)(e:st.qf.l=ss++[s])(n:Int)(hn:vS n s.insts.l≠[])(b:Bool):yw ⟨st.text,st.zC,⟨b,ss++[⟨n,s.insts⟩]⟩⟩:=by
 have hm: ∀{P:qc->Prop},(∀ x∈st.qf.l,P x)->P ⟨n,s.insts⟩-> ∀x∈ss++[(⟨n,s.insts⟩:qc)],P x:=by intro P h1 h2 x hx;rcases p?.1 hx with hx|hx;exact h1 x (by rw[e];exact List.mem_append_left _ hx);simp only[c?]at hx;subst hx;exact h2
 have hs:s∈st.qf.l:=by rw[e];simp
 have hl:=h.may.sm;rw[e]at hl;refine⟨⟨h.may.text,by simpa using hl,h.may.ne,h.may.K6,h.may.Jr,h.may.Yn,hm h.may.may (h.may.may s hs), ?_⟩,hm h.small (h.small s hs),hm h.stop (h.stop s hs),hm h.KZ hn,h.qn⟩;have hL:=h.may.Fz;rw[e]at hL;intro j x hx;have hj:=(qL hx).1;simp only[s?,y!]at hj;have hprev: ∀p,0<j->(ss++[(⟨n,s.insts⟩:qc)])[j-1]? =some p->(ss++[s])[j-1]? =some p:=by intro p h0 hp;rw[t? o?]at hp |-;exact hp
 by_cases c:j<ss.length;rw[t? c]at hx;obtain⟨h1,h2⟩:=hL j x (by rw[t? c];exact hx);exact⟨h1,fun h0 p hp=>h2 h0 p (hprev p h0 hp)⟩;have Sq:j=ss.length:=o?;subst Sq;rw[J? (ju _)]at hx;simp only[Nat.sub_self,a?,wd]at hx;subst hx;obtain⟨h1,h2⟩:=hL ss.length s (by rw[J? (ju _)];simp);exact⟨h1,fun h0 p hp=>h2 h0 p (hprev p h0 hp)⟩
theorem Ok(n k:Int)(sp:Sl qk)(st t4:qq)(s:qc)(hs:sp.l.length<=2^24): ∀(r:List qk)(i:Nat)(l:List qm),sp.l.drop i=r->l.length<=i->i<=sp.l.length->qM (uL (n,k,sp,(i:Int),st,t4,s,l)) (fun v=>v.length<=2^24):=by intro r;induction r with|nil=>intro i l h ho hi;have:=zt h;rw[uL.eq_1,if_neg v?];exact .ret o?|cons x r ih=>intro i l h ho hi;obtain⟨h1,h2,h3⟩:=zH h;rw[uL.eq_1,if_pos v?,ws o?];refine .go (gi h1) ?_;rw[if_pos qH];exact ih (i+1) _ h2 v? o?
theorem DK(n k:Int)(sp:Sl qk)(st t4:qq)(s:qc)(hs:sp.l.length<=2^24): ∀(r:List qk)(i:Nat)(l:List qm),sp.l.drop i=r->l.length<=i->i<=sp.l.length->qM (ve (n,k,sp,(i:Int),st,t4,s,l)) (fun v=>v.length<=2^24):=by intro r;induction r with|nil=>intro i l h ho hi;have:=zt h;rw[ve.eq_1,if_neg v?];exact .ret o?|cons x r ih=>intro i l h ho hi;obtain⟨h1,h2,h3⟩:=zH h;rw[ve.eq_1,if_pos v?,ws o?];refine .go (gi h1) ?_;rw[if_pos qH];exact ih (i+1) _ h2 v? o?
theorem Wv{α:Type}{l:List α}{x:α}(h:l[l.length-1]? =some x):l=l.take (l.length-1)++[x]:=by
 obtain⟨h1,h2⟩:=qL h;have h3:l.take (l.length-1+1)=l.take (l.length-1)++[x]:=by rw[List.take_add_one,h];rfl
 exact tW
section
variable {st:qq} (h:yw st)
include h
theorem spl(x:qc)(hx:x∈st.qf.l)(n:Int):wJ n x.insts=some ⟨(vS n x.insts.l).isEmpty,vS n x.insts.l⟩/\(vS n x.insts.l).length<=2^24:=
 ⟨Xd n x.insts (h.small x hx).2 (h.small x hx).1,Xc (h.small x hx) n⟩
theorem DM(n:Int)(hn: ∀x∈st.qf.l,st.qf.l[st.qf.l.length-1]? =some x->vS n x.insts.l≠[])(jZ:st.qf.l≠[]):qM (mR st.text st.zC n st.qf.l) (fun v=>v.2=0->yw v.1):=by have hl:=h.may.sm;have tJ:=M?.2 jZ;unfold mR;rw[wi (n:=(st.qf.l.length:Int)-1),show(st.qf.l.length:Int)-1=((st.qf.l.length-1:Nat):Int)from o?];obtain⟨x,hx⟩:=gl (l:=st.qf.l) (k:=st.qf.l.length-1) o?;have SB:=zc hx;refine .go (gi hx) ?_;obtain⟨s1,s2⟩:=spl h x SB n;refine .go s1 ?_;refine .bind (Ok n _ ⟨(vS n x.insts.l).isEmpty,vS n x.insts.l⟩ _ _ x s2 _ 0 [] rfl z? z?) fun w hw=>?_;refine .bind (eZ (st.text.length:Int) ⟨w.isEmpty,w⟩ u?) fun u hu=>?_;refine .ite (fun c=> .ret fun h0=>absurd h0 (by simpa using c)) fun c=>?_;have hg:=hu (by simpa using c);refine .go (JO _ _ o?) ?_;refine .zE (qH v? o?) ?_;have Wp:=yw.sel h hg;refine .ite (fun _=>qM.zE (qH v? o?) (.ret fun _=>?_)) fun _=> .ret fun _=>?_;exact Wp.cur _ x (Wv hx) n (hn x SB hx) false;exact Wp.take _ false
theorem QV(n:Int)(hn: ∀x∈st.qf.l,st.qf.l[st.qf.l.length-1]? =some x->vS n x.insts.l≠[])(jZ:st.qf.l≠[]):qM (ba st n) (fun v=>v.2=0->yw v.1):=by have hl:=h.may.sm;have tJ:=M?.2 jZ;unfold ba;rw[wi (n:=(st.qf.l.length:Int)-1),show(st.qf.l.length:Int)-1=((st.qf.l.length-1:Nat):Int)from o?];obtain⟨x,hx⟩:=gl (l:=st.qf.l) (k:=st.qf.l.length-1) o?;have SB:=zc hx;refine .go (gi hx) ?_;obtain⟨s1,s2⟩:=spl h x SB n;refine .go s1 ?_;refine .bind (DK n _ ⟨(vS n x.insts.l).isEmpty,vS n x.insts.l⟩ _ _ x s2 _ 0 [] rfl z? z?) fun w hw=>?_;refine .bind (eZ (st.text.length:Int) ⟨w.isEmpty,w⟩ u?) fun u hu=>?_;refine .ite (fun c=> .ret fun h0=>absurd h0 (by simpa using c)) fun c=>?_;have hg:=hu (by simpa using c);refine .go (JO _ _ o?) ?_;refine .zE (qH v? o?) ?_;have Wp:=yw.sel h hg;refine .ite (fun _=>qM.zE (qH v? o?) (.ret fun _=>?_)) fun _=> .ret fun _=>?_;exact Wp.cur _ x (Wv hx) n (hn x SB hx) false;exact Wp.take _ false
theorem Nq(jZ:st.qf.l≠[]):qM (sX st) yw:=by have hl:=h.may.sm;have tJ:=M?.2 jZ;unfold sX;rw[wi (n:=(st.qf.l.length:Int)-1),show(st.qf.l.length:Int)-1=((st.qf.l.length-1:Nat):Int)from o?];refine .go (JO _ _ o?) ?_;exact .zE (qH v? o?) (.ret (h.take _ false))
theorem WB{α:Type}{k:Bool->Option α}{Q:α->Prop}(hk:qM (k true) Q):qM (jl st>>=k) Q:=by obtain⟨t,m1,m2⟩:=WA st h.small (by have:=h.may.K6;omega);obtain rfl:=m2.2 h.may;exact .go m1 hk
theorem Ts:qM (fW st) (fun v=>v.2=0->yw v.1):=by
 have hl:=h.may.sm;unfold fW;refine WB h ?_;rw[if_neg z?];refine .ite (fun _=> .ret fun h0=>absurd h0 (by decide)) fun c=>?_;have jZ:st.qf.l≠[]:=by intro e;rw[e]at c;simp at c
 have tJ:=M?.2 jZ;rw[wi (n:=(st.qf.l.length:Int)-1),show(st.qf.l.length:Int)-1=((st.qf.l.length-1:Nat):Int)from o?];obtain⟨x,hx⟩:=gl (l:=st.qf.l) (k:=st.qf.l.length-1) o?;have hs:=h.small x (zc hx);refine .go (gi hx) ?_;refine .bind (q02 x.cur x.insts hs.2 hs.1) fun v hv=>?_;refine .ite (fun _=>G' (Nq h jZ) fun u hu=> .ret fun _=>hu) fun c2=>?_;refine .bind (QV h v.1 (fun y _ hy=>?_) jZ) fun u hu=> .ret hu;rw[hx]at hy;cases hy;exact hv (by simpa using c2)
theorem TN:qM (fX st) (fun v=>v.2=0->yw v.1):=by
 have hl:=h.may.sm;unfold fX;refine WB h ?_;rw[if_neg z?];refine .ite (fun _=> .ret fun h0=>absurd h0 (by decide)) fun c=>?_;have jZ:st.qf.l≠[]:=by intro e;rw[e]at c;simp at c
 have tJ:=M?.2 jZ;rw[wi (n:=(st.qf.l.length:Int)-1),show(st.qf.l.length:Int)-1=((st.qf.l.length-1:Nat):Int)from o?];obtain⟨x,hx⟩:=gl (l:=st.qf.l) (k:=st.qf.l.length-1) o?;have hs:=h.small x (zc hx);refine .go (gi hx) ?_;refine .bind (prev_tot x.cur x.insts hs.2 hs.1) fun v hv=>?_;refine .ite (fun _=> .ret fun h0=>absurd h0 (by decide)) fun c2=>?_;refine .bind (QV h v.1 (fun y _ hy=>?_) jZ) fun u hu=> .ret hu;rw[hx]at hy;cases hy;exact hv (by simpa using c2)
theorem Np:qM (cW st) (fun v=>v.2=0->yw v.1):=by unfold cW;refine WB h ?_;rw[if_neg z?];have:= @Nq;exact tW
theorem Dz(k n:Int)(x:qc)(hx:x∈st.qf.l)(a:Nat)(i:qu)(hi:x.insts.l[a]? =some i)(t4:qq): ∀(r:List qt)(j:Nat)(has f:Bool)(es:List qz),i.stops.l.drop j=r->es.length<=a+(if f=true then 1 else 0)->vh es<=es.length*17592186044416->
  qM (ja (k,n,has,(a:Int),f,(j:Int),st,t4,x,es)) (fun v=>v.2.length<=a+1/\vh v.2<=v.2.length*17592186044416):=by have hs:=h.small x hx;have ha:=(qL hi).1;have eo:=hs.2 i (zc hi);have ha12:=hs.1;intro r;induction r with|nil=>intro j has f es h0 h1 h2;have:=zt h0;rw[ja.eq_1];refine .go (gi hi) ?_;rw[if_neg v?];exact .ret ⟨by simp only;split at h1<;>omega,h2⟩|cons y r ih=>(intro j has f es h0 h1 h2;obtain⟨g1,g2,g3⟩:=zH h0;have hso:=h.stop x hx i (zc hi) y (zc g1);rw[ja.eq_1];refine .go (gi hi) ?_;rw[if_pos v?,ws o?];refine .go (gi g1) ?_;refine .ite (fun _=>ih (j+1) _ _ _ g2 h1 h2) fun _=>?_;have take: ∀has' :Bool,((!f)&&((decide (k>=(0:Int)))&&(decide (k<(y.opts.l.length:Int)))))=true->qM (qh y.opts.l k>>=fun z=>if qi (es.length+1) 32=true then ja (k,n,has',(a:Int),true,((j+1:Nat):Int),st,t4,x,es++[(qz.mk y.span z)])else none) (fun v=>v.2.length<=a+1/\vh v.2<=v.2.length*17592186044416):=by (intro has' c;simp only[zU,O!,decide_eq_true_eq]at c;obtain⟨c1,c2,c3⟩:=c;subst c1;simp only[wH,if_false,Nat.add_zero]at h1;refine .bind (qM.get o? c3) fun z hz=>?_;have hzl:=hso.2.1 z hz.2;rw[if_pos qH];refine ih (j+1) _ _ _ g2 v? ?_;have:vh (es++[(qz.mk y.span z)])=vh es+z.length:=by simp[vh]);rw[this,s?,y!,N?];omega);exact .ite (fun _=>x_ (fun c=>take _ c) fun _=>ih (j+1) _ _ _ g2 h1 h2) fun _=>x_ (fun c=>take _ c) fun _=>ih (j+1) _ _ _ g2 h1 h2
theorem Dy(k n:Int)(x:qc)(hx:x∈st.qf.l)(t4:qq): ∀(r:List qu)(a:Nat)(has:Bool)(es:List qz),x.insts.l.drop a=r->a<=x.insts.l.length->es.length<=a->vh es<=es.length*17592186044416->
  qM (yo (k,n,has,(a:Int),st,t4,x,es)) (fun v=>v.2.length<=4096/\vh v.2<=v.2.length*17592186044416):=by have hs:=h.small x hx;have ha12:=hs.1;intro r;induction r with|nil=>intro a has es h0 YD h1 h2;have:=zt h0;rw[yo.eq_1,if_neg v?];exact .ret ⟨u?,h2⟩|cons i r ih=>intro a has es h0 YD h1 h2;obtain⟨g1,g2,g3⟩:=zH h0;rw[yo.eq_1,if_pos v?,ws o?];have:= @Dz;exact tW
end
end Xr
theorem Xu(s lead unit:qa)(hs:s.length<=8192002)(hl:lead.length<=1048576)(hu:unit.length<=1048576):qM (bR s lead unit) (fun r=>r.length<=17592186044416):=by
 have key: ∀(r:qa)(k:Nat)(behind:Bool)(b:qa),s.drop k=r->k<=s.length->b.length<=2097153*k->qM (xz (s,lead,unit,behind,(k:Int),b)) (fun r=>r.length<=17592186044416):=by (have V1: ∀n,n<=17592186044416->qi n 1=true:=by intro n hn;simp only[qi,zU,decide_eq_true_eq];omega);intro r;induction r with|nil=>intro k behind b hk N6 hb;rw[xz.eq_1,if_neg (by simpa using yx hk)];exact .ret o?|cons c r ih=>(intro k behind b hk N6 hb;obtain⟨a1,a2,a3,a4⟩:=vn hk;have next: ∀(h:Bool)(e:qa),e.length<=b.length+2097153->qM (xz (s,lead,unit,h,((k+1:Nat):Int),e)) (fun r=>r.length<=17592186044416):=fun h e he=>ih (k+1) h e a3 o? o?);rw[xz.eq_1,if_pos (by simpa using a1),l9 o? a1,a2];exact tW
 unfold bR;exact tW
theorem YB(name:qa)(env:Sl qx)(he:env.l.length<=1099511627776):qM (u9 name env) (fun r=>(∃ p∈env.l,r.1=p.value)\/(r.1=[]/\r.2=false)):=by
 have key: ∀(r:List qx)(k:Nat),env.l.drop k=r->qM (vB (name,env,(k:Int))) (fun v=>match v with| .inl y=> ∃p∈env.l,y.1=p.value| .inr _=>True):=by intro r;induction r with|nil=>intro k hk;rw[vB.eq_1,if_neg (by simpa using yx hk)];exact .ret trivial|cons c r ih=>intro k hk;obtain⟨a1,a2,a3,a4⟩:=vn hk;rw[vB.eq_1,if_pos (by simpa using a1),l9 o? a1];exact tW
 unfold u9;exact tW
theorem Js(name:qa):qM (re name) (fun _=>True):=by
 have key: ∀(l:Sl qa)(hl:l.l.length<=1000)(r:List qa)(k:Nat),l.l.drop k=r->qM (uy (name,l,(k:Int))) (fun _=>True):=by intro l hl r;induction r with|nil=>intro k hk;rw[uy.eq_1,if_neg (by simpa using yx hk)];exact .ret trivial|cons c r ih=>intro k hk;obtain⟨a1,a2,a3,a4⟩:=vn hk;rw[uy.eq_1,if_pos (by simpa using a1),l9 o? a1];exact tW
 unfold re aX;refine .go rfl ?_;refine .bind (key _ z? _ 0 rfl) fun v _=>?_;rcases v with v|v<;>exact .ret trivial
theorem tV(n:Int)(l:List Int)(hl:l.length<=1099511627776):qM (yU n l) (fun r=>r=true↔n∈l):=by
 have key: ∀(r:List Int)(k:Nat),l.drop k=r->qM (uB (n,(k:Int),l)) (fun v=>(v= .inl true/\n∈r)\/(v= .inr ()/\n∉r)):=by intro r;induction r with|nil=>intro k hk;rw[uB.eq_1,if_neg (by simpa using yx hk)];exact .ret (.inr ⟨rfl,z?⟩)|cons c r ih=>intro k hk;obtain⟨a1,a2,a3,a4⟩:=vn hk;rw[uB.eq_1,if_pos (by simpa using a1),l9 o? a1];refine .go a2 ?_;exact tW
 unfold yU;exact tW
abbrev Pt:=qb
inductive tB:Int->Nat->List Pt->Prop
 |nil (up:Int) (b:Nat):tB up b []
 |cons (up:Int) (b:Nat) (x:Pt) (qD rest:List Pt) (hu:x.up=up) (he:x.end_=((b+1+qD.length:Nat):Int)) (hd:x.jg=false->qD=[]) (ho:x.opts.l≠[]->qD=[])
   (hk:tB b (b+1) qD) (hr:tB up (b+1+qD.length) rest):tB up b (x::(qD++rest))
theorem tB.app{up:Int}{b:Nat}{l r:List Pt}(h:tB up b l):tB up (b+l.length) r->tB up b (l++r):=by
 induction h with
 |nil up b=>intro hr;simpa using hr
 |cons up b x qD rest hu he hd ho hk _ _ ih=>
  intro hr;have:=tB.cons up b x qD (rest++r) hu he hd ho hk (ih (by
   have:b+(x::(qD++rest)).length=b+1+qD.length+rest.length:=v?
   rwa[this]at hr))
  simpa using this
theorem tB.one{up:Int}{b:Nat}(x:Pt)(hu:x.up=up)(he:x.end_=((b+1:Nat):Int)):tB up b [x]:=by simpa using tB.cons up b x [] [] hu (by simpa using he) (fun _=>rfl) (fun _=>rfl) (.nil _ _) (.nil _ _)
structure E8 (k:Nat) (x:Pt):Prop where
 kind:0<=x.kind/\x.kind<=2
 other:x.kind≠1->x.n=0/\x.jg=false/\x.opts.l=[]
 n: -(k:Int)<=x.n/\x.n<=9999
 qU:yP x.qU<=1000000000
 dt:x.jg=true->x.qQ=false
 od:x.jg=false->x.opts.l=[]
 tt:x.qQ=true->x.text.length<=1048576
 tl:x.text.length<=17592186044416
 ol:(∀ o∈x.opts.l,o.length<=17592186044416)/\Uv x.opts=0/\x.opts.l.length<=8192002
theorem E8.mono{j k:Nat}(h:j<=k){x:Pt}(p:E8 j x):E8 k x:=⟨p.kind,p.other,⟨by have:=p.n;omega,p.n.2⟩,p.qU,p.dt,p.od,p.tt,p.tl,p.ol⟩
def defs(r:List Pt):List Int:=(r.filter (·.jg)).map (·.n)
structure sD (r:List Pt) (ds:List Int) (ns:List qa):Prop where
 ok: ∀x∈r,E8 ns.length x
 dk: ∀n∈defs r,n∈ds
 un:(defs r).Nodup
 dl:ds.length<=r.length
 nl:ns.length<=r.length
structure oU (env:Sl qx) (lead unit:qa) (up:Int) (r:List Pt) (ns:List qa) (m:Nat) (v:Sl qx×qa×qa×List Pt×List Int×List qa):Prop where
 e1:v.1=env
 e2:v.2.1=lead
 e3:v.2.2.1=unit
 ex: ∃t,v.2.2.2.1=r++t/\tB up r.length t/\t.length<=2*m
 inv:sD v.2.2.2.1 v.2.2.2.2.1 v.2.2.2.2.2
 ns:ns.length<=v.2.2.2.2.2.length
theorem mc(p:Pt)(b:Sl qx)(b2 b3:qa)(r:List Pt)(r2:List Int)(r3:List qa)(h:r.length<=100000000):
  qM (xi p b b2 b3 r r2 r3) (fun v=>v=r++[{ p with end_:=((r.length+1:Nat):Int) }]):=by unfold xi;have:= @wr;exact tW
theorem cy(a b:List Pt):defs (a++b)=defs a++defs b:=by simp[defs]
theorem cz(x:Pt):defs [x]=if x.jg then[x.n]else[]:=by unfold defs;cases h:x.jg<;>simp[h]
theorem sD.put{r:List Pt}{ds:List Int}{ns:List qa}(h:sD r ds ns)(x:Pt)(hx:E8 ns.length x)(hd:x.jg=false):sD (r++[x]) ds ns where
 ok:=by intro y hy;rcases p?.1 hy with hy|hy;exact h.ok y hy;exact tW
 dk:=by rw[cy,cz,hd];simpa using h.dk
 un:=by rw[cy,cz,hd];simpa using h.un
 dl:=by have:=h.dl;simp;omega
 nl:=by have:=h.nl;simp;omega
theorem sD.define{r:List Pt}{ds:List Int}{ns:List qa}(h:sD r ds ns)(x:Pt)(hx:E8 ns.length x)(hd:x.jg=true)(hn:x.n∉ds):sD (r++[x]) (ds++[x.n]) ns where
 ok:=by intro y hy;rcases p?.1 hy with hy|hy;exact h.ok y hy;exact tW
 dk:=by rw[cy,cz,hd];intro n hn;rcases p?.1 hn with hn|hn;exact p?.2 (.inl (h.dk n hn));exact p?.2 (.inr hn)
 un:=by rw[cy,cz,hd];refine D?.2 ⟨h.un,z?,fun a ha b hb=>?_⟩;simp only[if_true,c?]at hb;subst hb;exact fun e=>hn (e ▸ h.dk a ha)
 dl:=by have:=h.dl;simp;omega
 nl:=by have:=h.nl;simp;omega
theorem sD.putN{r:List Pt}{ds:List Int}{ns ms:List qa}(h:sD r ds ns)(hm:ns.length<=ms.length/\ms.length<=ns.length+1)(x:Pt)(hx:E8 ms.length x)(hd:x.jg=false):sD (r++[x]) ds ms where
 ok:=by intro y hy;rcases p?.1 hy with hy|hy;exact(h.ok y hy).mono hm.1;exact tW
 dk:=by rw[cy,cz,hd];simpa using h.dk
 un:=by rw[cy,cz,hd];simpa using h.un
 dl:=by have:=h.dl;simp;omega
 nl:=by have:=h.nl;simp;omega
theorem sD.defineN{r:List Pt}{ds:List Int}{ns ms:List qa}(h:sD r ds ns)(hm:ns.length<=ms.length/\ms.length<=ns.length+1)(x:Pt)(hx:E8 ms.length x)(hd:x.jg=true)(hn:x.n∉ds):sD (r++[x]) (ds++[x.n]) ms where
 ok:=by intro y hy;rcases p?.1 hy with hy|hy;exact(h.ok y hy).mono hm.1;exact tW
 dk:=by rw[cy,cz,hd];intro n hn;rcases p?.1 hn with hn|hn;exact p?.2 (.inl (h.dk n hn));exact p?.2 (.inr hn)
 un:=by rw[cy,cz,hd];refine D?.2 ⟨h.un,z?,fun a ha b hb=>?_⟩;simp only[if_true,c?]at hb;subst hb;exact fun e=>hn (e ▸ h.dk a ha)
 dl:=by have:=h.dl;simp;omega
 nl:=by have:=h.nl;simp;omega
theorem sD.names{r:List Pt}{ds:List Int}{ns:List qa}(h:sD r ds ns){ms:List qa}(h1:ns.length<=ms.length)(h2:ms.length<=r.length):sD r ds ms:=
 ⟨fun x hx=>(h.ok x hx).mono h1,h.dk,h.un,h.dl,h2⟩
theorem sD.Jb{r t:List Pt}{p q:Pt}{ds:List Int}{ns:List qa}(h:sD (r++p::t) ds ns)(e:Int)(hq:q={ p with end_:=e }):sD (r++q::t) ds ns where
 ok:=by subst hq;intro y hy;rcases p?.1 hy with hy|hy;exact h.ok y (by simp[hy]);rcases U?.1 hy with rfl|hy;have:=h.ok p z?;exact⟨this.kind,this.other,this.n,this.qU,this.dt,this.od,this.tt,this.tl,this.ol⟩;exact h.ok y (by simp[hy])
 dk:=by (have e1:defs (r++q::t)=defs (r++p::t):=by subst hq;simp only[defs,q0e,F!];cases p.jg<;>simp);rw[e1];exact h.dk
 un:=by (have e1:defs (r++q::t)=defs (r++p::t):=by subst hq;simp only[defs,q0e,F!];cases p.jg<;>simp);rw[e1];exact h.un
 dl:=by have:=h.dl;simpa using this
 nl:=by have:=h.nl;simpa using this
theorem H8:yP db=1:=by simp[db,lZ,yP,yL,dG,Zf,qR]
structure GX (env:Sl qx) (lead unit:qa):Prop where
 len:env.l.length<=1099511627776
 val: ∀p∈env.l,p.value.length<=1048576
 lead:lead.length<=1048576
 unit:unit.length<=1048576
section
variable {env:Sl qx} {lead unit:qa}
theorem Jv(name:qa)(r:List Pt)(r2:List Int)(ns:List qa)(hn:ns.length<=100000000):
  qM (ua name env lead unit r r2 ns) (fun v=>ns.length<=v.2.length/\v.2.length<=ns.length+1/\ -(v.2.length:Int)<=v.1/\v.1<0):=by
 have key: ∀(q:List qa)(k:Nat),ns.drop k=q->qM (kp (name,(k:Int),env,lead,unit,r,r2,ns)) (fun v=>match v with| .inl y=> -(ns.length:Int)<=y/\y<0| .inr _=>True):=by intro q;induction q with|nil=>intro k hk;rw[kp.eq_1,if_neg (by simpa using yx hk)];exact .ret trivial|cons c q ih=>intro k hk;obtain⟨a1,a2,a3,a4⟩:=vn hk;rw[kp.eq_1,if_pos (by simpa using a1),l9 o? a1];have:= @wr;exact tW
 unfold ua;refine .bind (key ns 0 rfl) fun v hv=>?_;rcases v with v|v;exact tW;have:= @wr;exact tW
theorem WN(plain:Bool)(a:Int)(r:List Pt)(r2:List Int)(r3:List qa)(x:qA)(hx:pQ x<=8192002)(hE:GX env lead unit)(p1:Int)(p2:qa)(p3:Int)(d:Bool)(p5 p6:Bool)(p7:Int)(p8:qa)(p9:Bool)(p10:Sl qW)(p11 p12:Int)(p13:Bool)(p14:Sl qF)(p15:Sl zw)(p16 p17:Bool)(p18 p19:Int):
  qM (xq (plain,a,(0:Int),env,lead,unit,r,r2,r3,x,p1,p2,p3,d,p5,p6,p7,p8,p9,p10,p11,p12,p13,p14,p15,p16,p17,p18,p19,([]:List qa)))
   (fun o=>(d=false->o=[])/\(x.opts.l=[]->o=[])/\(∀ y∈o,y.length<=17592186044416)/\o.length<=8192002):=by
 have hw:=nN x;have Eg:=xI Hx x.opts.l;cases d with
 |false=>
  rw[xq.eq_1,if_neg z?];exact .ret ⟨fun _=>rfl,fun _=>rfl,z?,z?⟩
 |true=>
  have key: ∀(q:List qa)(k:Nat)(o:List qa),x.opts.l.drop k=q->o.length=k->k<=x.opts.l.length->(∀ y∈o,y.length<=17592186044416)->
    qM (xq (plain,a,(k:Int),env,lead,unit,r,r2,r3,x,p1,p2,p3,true,p5,p6,p7,p8,p9,p10,p11,p12,p13,p14,p15,p16,p17,p18,p19,o)) (fun o=>o.length=x.opts.l.length/\ ∀y∈o,y.length<=17592186044416):=by
   intro q;induction q with
   |nil=>
    intro k o hk ho pd hy;rw[xq.eq_1,if_neg (by simpa using yx hk)];have:=vV hk;exact .ret ⟨o?,hy⟩
   |cons c q ih=>
    intro k o hk ho pd hy;obtain⟨a1,a2,a3,a4⟩:=vn hk;have hc:Er c<=qR (x.opts.l.map Er):=j9 a4;have hcw:Er c=1+c.length:=rfl;rw[xq.eq_1,if_pos (by simpa using a1),l9 o? a1];refine .go a2 ?_;refine .bind (Xu c lead unit o? hE.lead hE.unit) fun v hv=>?_;refine .zE (by simp only[qi,zU,decide_eq_true_eq];omega) ?_;refine ih (k+1) _ a3 v? o? ?_;intro y QJ;rcases p?.1 QJ with QJ|QJ
    ·exact hy y QJ
    simp only[c?]at QJ;subst QJ;exact hv
  refine(key x.opts.l 0 [] rfl rfl o? z?).mono fun o ho=>⟨z?,fun h=>?_,ho.2,by have:=ho.1;omega⟩;have:=ho.1;rw[h]at this;simpa using this
theorem Ks{α:Type}(r t:List α)(p q:α):(r++p::t).set r.length q=r++q::t:=by rw[List.set_append_right _ _ (ju _)];simp
theorem ZL{α:Type}(r t:List α)(p:α):qh (r++p::t) (r.length:Int)=some p:=by rw[xk z?];simp
theorem Vf(x:qA)(hx:pQ x<=8192002)(hS:WS x)(hk:x.kind=1\/x.kind=2)(up:Int)(hE:GX env lead unit)(r:List Pt)(ds:List Int)(ns:List qa)(hr:r.length+2*pQ x<=40000000)(hI:sD r ds ns)
  (ih: ∀(up:Int)(r:List Pt)(ds:List Int)(ns:List qa),r.length+2*qR (x.qD.l.map pQ)<=40000000->sD r ds ns->qM (zZ (x.qD,up,env,lead,unit,r,ds,ns)) (oU env lead unit up r ns (qR (x.qD.l.map pQ)))):
  qM (wA (x,up,false,env,lead,unit,r,ds,ns)) (oU env lead unit up r ns (pQ x)):=by
 have hw:=nN x;have hdl:=hI.dl;obtain⟨s2,s1,sn⟩:(x.kind=2->x.has=false/\x.qQ=false/\x.qD.l=[]/\0<x.opts.l.length)/\(x.kind=1\/x.kind=3->x.opts.l=[]/\(x.has=true->x.qQ=false)/\(x.has=false->x.qD.l=[]))/\(x.kind=1\/x.kind=2->0<=x.n/\x.n<=9999):=by cases hS with|mk _ _ _ a b _ c=>exact⟨a,b,c⟩
 have hn:=sn hk;rw[wA.eq_1];refine .tI ?_ ?_<;>intro hT
 ·have hd:=hT;have htu:x.qQ=false:=by rcases hk with h|h;rcases hd with hd|hd;exact(s1 (.inl h)).2.1 hd;omega;exact(s2 h).2.1
  refine .bind (tV x.n ds o?) fun v hv=>?_;refine .bind (WN _ _ _ _ _ x hx hE _ _ _ (!v) _ _ _ _ _ _ _ _ _ _ _ _ _ _ _) fun o ho=>?_;have hp: ∀e,E8 ns.length (qb.mk (1:Int) ([]:qa) x.n (!v) false x.qQ x.qU (⟨o.isEmpty,o⟩:(Sl qa)) up e):=fun e=>
   ⟨u?,z?,⟨u?,hn.2⟩,u?,fun _=>htu,fun h=>ho.1 h,z?,z?,ho.2.2.1,K9 _,ho.2.2.2⟩
  refine .bind (mc _ env lead unit r ds ns o?) fun y hy=>?_;subst hy;refine .tI ?_ ?_<;>intro hT;have ZQ:=hT;refine .ret ⟨rfl,rfl,rfl,⟨_,rfl,tB.one _ rfl rfl,v?⟩,hI.put _ (hp _) (by simp[ZQ]),ju _⟩;have ZQ:=hT;refine .zE (by simp only[qi,zU,decide_eq_true_eq];omega) ?_;rw[if_neg z?];have hI2:=hI.define _ (hp ((r.length+1:Nat):Int)) (by simp[ZQ]) (fun h=>by have:=hv.2 h;simp_all);refine .bind (ih (r.length:Int) _ _ _ v? hI2) fun w MT=>?_;obtain⟨g1,g2,g3,⟨t,g4,g5,g6⟩,g7,g8⟩:=MT;rw[g4,List.append_assoc]at g7 |-;simp only[List.cons_append,List.nil_append]at g7 |-;refine .go (ZL _ _ _) ?_;rw[Int.toNat_natCast,Ks];have hlen:(r++qb.mk (1:Int) ([]:qa) x.n (!v) false x.qQ x.qU (⟨o.isEmpty,o⟩:(Sl qa)) up ((r.length+1:Nat):Int)::t).length=r.length+1+t.length:=v?;refine .ret ⟨g1,g2,g3,⟨_,rfl, ?_,v?⟩, ?_,g8⟩;(have hkid:(⟨o.isEmpty,o⟩:Sl qa).l≠[]->t=[]:=by (intro h;have hko:x.qD.l=[]:=by rcases hk with h1|h1;exact absurd (ho.2.1 (s1 (.inl h1)).1) h;exact(s2 h1).2.2.1);(have:t.length<=0:=by rw[hko]at g6;simpa[qR]using g6);simpa using this);have:=tB.cons up r.length (qb.mk (1:Int) ([]:qa) x.n (!v) false x.qQ x.qU (⟨o.isEmpty,o⟩:(Sl qa)) up (((r++qb.mk (1:Int) ([]:qa) x.n (!v) false x.qQ x.qU (⟨o.isEmpty,o⟩:(Sl qa)) up ((r.length+1:Nat):Int)::t).length:Nat):Int)) t [] rfl (by simp only[hlen]) (fun h=>by simp[ZQ]at h) hkid (by simpa using g5) (.nil _ _);simpa using this;exact g7.Jb _ rfl
 have hd:=hT;refine .bind (WN _ _ _ _ _ x hx hE _ _ _ false _ _ _ _ _ _ _ _ _ _ _ _ _ _ _) fun o ho=>?_;refine .bind (mc _ env lead unit r ds ns o?) fun y hy=>?_;subst hy;refine .ret ⟨rfl,rfl,rfl,⟨_,rfl,tB.one _ rfl rfl,v?⟩,hI.put _ ?_ rfl,ju _⟩;exact⟨u?,z?,⟨u?,hn.2⟩,u?,z?,fun _=>ho.1 rfl,z?,z?,ho.2.2.1,K9 _,ho.2.2.2⟩
end
section
variable {env:Sl qx} {lead unit:qa}
theorem oU.trans{up:Int}{r:List Pt}{ns:List qa}{m1 m2:Nat}{v w:Sl qx×qa×qa×List Pt×List Int×List qa}(h1:oU env lead unit up r ns m1 v)(h2:oU env lead unit up v.2.2.2.1 v.2.2.2.2.2 m2 w):oU env lead unit up r ns (m1+m2) w:=by obtain⟨t1,a1,a2,a3⟩:=h1.ex;obtain⟨t2,b1,b2,b3⟩:=h2.ex;refine⟨h2.e1,h2.e2,h2.e3,⟨t1++t2,by rw[b1,a1,v_],a2.app ?_,v?⟩,h2.inv,Nat.le_trans h1.ns h2.ns⟩;rw[a1]at b2;simpa using b2
theorem oU.len{up:Int}{r:List Pt}{ns:List qa}{m:Nat}{v:Sl qx×qa×qa×List Pt×List Int×List qa}(h:oU env lead unit up r ns m v):v.2.2.2.1.length<=r.length+2*m:=by obtain⟨t,a1,_,a3⟩:=h.ex;rw[a1];simp;omega
theorem eP{up:Int}{r:List Pt}{ds:List Int}{ns:List qa}(hI:sD r ds ns){x:Pt}(hu:x.up=up)(hd:x.jg=false)(he:x.end_=((r.length+1:Nat):Int))(hp:E8 ns.length x){m:Nat}(hm:1<=m):
  oU env lead unit up r ns m (env,lead,unit,r++[x],ds,ns):=
 ⟨rfl,rfl,rfl,⟨_,rfl,tB.one _ hu he,v?⟩,hI.put _ hp hd,ju _⟩
theorem U8(n:Int)(t:qa)(ht:t.length<=8192002)(up:Int)(r:List Pt)(ds:List Int)(ns:List qa)(hr:r.length<=50000000)(hI:sD r ds ns)(ms:List qa)(hms:ns.length<=ms.length/\ms.length<=ns.length+1)(hn: -(ms.length:Int)<=n/\n<0):
  qM (ym ((1:Int),([]:qa),n,true,false,(0:Int),([]:qa),false,(⟨true,([]:List qW)⟩:Sl qW),(0:Int),(0:Int),false,(⟨true,([]:List qF)⟩:Sl qF),(⟨true,([]:List zw)⟩:Sl zw),false,false,(⟨true,([]:List qa)⟩:Sl qa),up,true,env,lead,unit,[(qA.mk (0:Int) t (0:Int) false false (zo.mk (qF.mk (0:Int) ([]:qa) false (⟨true,[]⟩:(Sl qW)) (0:Int) (0:Int) false (⟨true,[]⟩:(Sl qF))) (⟨true,[]⟩:(Sl zw)) false false) (⟨true,[]⟩:(Sl qa)) (⟨true,[]⟩:(Sl qA)))],r,ds,ms))
   (fun v=> ∃r' Sa,v= .inl (r',Sa)/\oU env lead unit up r ns 1 (env,lead,unit,r',Sa,ms)):=by
 have hdl:=hI.dl;have hnl:=hI.nl;rw[ym.eq_1];rw[if_pos z?];refine .bind (tV n ds o?) fun v hv=>?_;refine .go (a:=[]) (by rw[wY.eq_1];simp) ?_;have hp: ∀e,E8 ms.length (qb.mk (1:Int) ([]:qa) n (!v) false false (zo.mk (qF.mk (0:Int) ([]:qa) false (⟨true,([]:List qW)⟩:Sl qW) (0:Int) (0:Int) false (⟨true,([]:List qF)⟩:Sl qF)) (⟨true,([]:List zw)⟩:Sl zw) false false) (⟨([]:List qa).isEmpty,[]⟩:(Sl qa)) up e):=fun e=>
  ⟨u?,z?,⟨hn.1,u?⟩,by have:=H8;unfold db lZ at this;simp only[this];omega,fun _=>rfl,fun _=>rfl,z?,z?,by simp[dG]⟩
 have hq: ∀e,E8 ms.length (qb.mk (0:Int) t (0:Int) false false false (zo.mk (qF.mk (0:Int) ([]:qa) false (⟨true,([]:List qW)⟩:Sl qW) (0:Int) (0:Int) false (⟨true,([]:List qF)⟩:Sl qF)) (⟨true,([]:List zw)⟩:Sl zw) false false) (⟨true,([]:List qa)⟩:(Sl qa)) (r.length:Int) e):=fun e=>
  ⟨u?,z?,⟨u?,u?⟩,by have:=H8;unfold db lZ at this;simp only[this];omega,z?,fun _=>rfl,z?,u?,by simp[dG]⟩
 refine .bind (mc _ env lead unit r ds ms o?) fun y hy=>?_;subst hy;refine .tI ?_ ?_<;>intro hT;have ZQ:=hT;exact .ret ⟨_,_,rfl,⟨rfl,rfl,rfl,⟨_,rfl,tB.one _ rfl rfl,z?⟩,hI.putN hms _ (hp _) (by simp[ZQ]),hms.1⟩⟩
 have ZQ:=hT;refine .zE (by simp only[qi,zU,decide_eq_true_eq];omega) ?_;rw[if_pos rfl];refine .go (a:=(qA.mk (0:Int) t (0:Int) false false (zo.mk (qF.mk (0:Int) ([]:qa) false (⟨true,[]⟩:(Sl qW)) (0:Int) (0:Int) false (⟨true,[]⟩:(Sl qF))) (⟨true,[]⟩:(Sl zw)) false false) (⟨true,[]⟩:(Sl qa)) (⟨true,[]⟩:(Sl qA)))) rfl ?_;have hI2:=hI.defineN hms _ (hp ((r.length+1:Nat):Int)) (by simp[ZQ]) (fun h=>by have:=hv.2 h;simp_all);refine .bind (mc _ env lead unit _ _ ms v?) fun y hy=>?_;simp only[s?,b?,f?,O?]at hy;subst hy;have hI3:=hI2.put _ (hq ((r.length+1+1:Nat):Int)) rfl;rw[v_]at hI3 |-;simp only[List.cons_append,L?]at hI3 |-;refine .go (ZL _ _ _) ?_;rw[X?,Ks];refine .ret ⟨_,_,rfl,⟨rfl,rfl,rfl,⟨_,rfl, ?_,z?⟩,hI3.Jb _ rfl,hms.1⟩⟩;have:=tB.cons (up:=up) (b:=r.length) (qb.mk (1:Int) ([]:qa) n (!v) false false (zo.mk (qF.mk (0:Int) ([]:qa) false (⟨true,([]:List qW)⟩:Sl qW) (0:Int) (0:Int) false (⟨true,([]:List qF)⟩:Sl qF)) (⟨true,([]:List zw)⟩:Sl zw) false false) (⟨([]:List qa).isEmpty,[]⟩:(Sl qa)) up ((r.length+1+1:Nat):Int))
  [qb.mk (0:Int) t (0:Int) false false false (zo.mk (qF.mk (0:Int) ([]:qa) false (⟨true,([]:List qW)⟩:Sl qW) (0:Int) (0:Int) false (⟨true,([]:List qF)⟩:Sl qF)) (⟨true,([]:List zw)⟩:Sl zw) false false) (⟨true,([]:List qa)⟩:(Sl qa)) (r.length:Int) ((r.length+1+1:Nat):Int)] [] rfl z? (fun h=>by simp[ZQ]at h) (fun h=>absurd rfl h) (tB.one _ rfl rfl) (.nil _ _)
 have e2:(r.length:Int)+2=(r.length:Int)+1+1:=o?;simpa[e2]using this
theorem YJ(hE:GX env lead unit): ∀(m:Nat)(l:Sl qA),qR (l.l.map pQ)<=m->m<=8192002->Kv l-> ∀(up:Int)(r:List Pt)(ds:List Int)(ns:List qa),r.length+2*qR (l.l.map pQ)<=40000000->sD r ds ns->
  qM (zZ (l,up,env,lead,unit,r,ds,ns)) (oU env lead unit up r ns (qR (l.l.map pQ))):=by
 intro m;induction m using r? with
 |_ m ih=>
 intro l hl hm hS up r ds ns hr hI;have hlen:=xI ct l.l;have key: ∀(q:List qA)(k:Nat)(r:List Pt)(ds:List Int)(ns:List qa),l.l.drop k=q->r.length+2*qR (q.map pQ)<=40000000->sD r ds ns->
   qM (zn (l,up,(k:Int),env,lead,unit,r,ds,ns)) (oU env lead unit up r ns (qR (q.map pQ))):=by
  intro q;induction q with
  |nil=>
   intro k r ds ns hk hr hI;rw[zn.eq_1,if_neg (by simpa using yx hk)];exact .ret ⟨rfl,rfl,rfl,⟨[],z?,.nil _ _,z?⟩,hI,ju _⟩
  |cons x q ihq=>
   intro k r ds ns hk hr hI;obtain⟨a1,a2,a3,a4⟩:=vn hk;have hx:=j9 (f:=pQ) a4;have hxw:=nN x;have Fm:=ct x;simp only[d?,qR]at hr |-;have hSx:=hS x a4;have next: ∀v:Sl qx×qa×qa×List Pt×List Int×List qa,oU env lead unit up r ns (pQ x) v->
     qM (zn (l,up,((k+1:Nat):Int),v.1,v.2.1,v.2.2.1,v.2.2.2.1,v.2.2.2.2.1,v.2.2.2.2.2)) (oU env lead unit up r ns (pQ x+qR (q.map pQ))):=by
    intro v hv;have:=hv.len;rw[hv.e1,hv.e2,hv.e3];exact(ihq (k+1) _ _ _ a3 o? hv.inv).mono fun w hw=>hv.trans hw
   rw[zn.eq_1,if_pos (by simpa using a1),l9 o? a1];refine .go a2 ?_;refine .tI ?_ ?_<;>intro hT
   ·refine .bind (Xu x.text lead unit o? hE.lead hE.unit) fun t ht=>?_;refine .bind (mc _ env lead unit r ds ns o?) fun y hy=>?_;subst hy;refine next (env,lead,unit,_,ds,ns) ?_
    refine eP hI ?_ ?_ ?_ ?_ Fm;rfl;rfl;rfl;exact⟨u?,z?,⟨u?,u?⟩,by have:=H8;unfold db lZ at this;simp only[this];omega,z?,fun _=>rfl,z?,ht,by simp[dG]⟩
   have k0:=hT;refine .tI ?_ ?_<;>intro hT
   ·have k3:=hT;refine .bind (YB x.text env hE.len) fun v hv=>?_;have Na:v.1.length<=1048576:=by
     rcases hv with ⟨p,p1,p2⟩|⟨p1,_⟩
     ·rw[p2];exact hE.val p p1
     rw[p1];simp
    refine .tI ?_ ?_<;>intro hT
    ·refine .bind (mc _ env lead unit r ds ns o?) fun y hy=>?_;subst hy;refine next (env,lead,unit,_,ds,ns) ?_
     refine eP hI ?_ ?_ ?_ ?_ Fm;rfl;rfl;rfl;exact⟨u?,z?,⟨u?,u?⟩,u?,z?,fun _=>rfl,fun _=>Na,u?,by simp[dG]⟩
    refine .tI ?_ ?_<;>intro hT
    ·refine .bind (ih (qR (x.qD.l.map pQ)) o? x.qD (ju _) o? (by cases hSx;assumption) up r ds ns o? hI) fun v hv=>?_;refine next v ⟨hv.e1,hv.e2,hv.e3, ?_,hv.inv,hv.ns⟩
     obtain⟨t,t1,t2,t3⟩:=hv.ex;exact⟨t,t1,t2,o?⟩
    refine .bind (Js x.text) fun v _=>?_;refine .tI ?_ ?_<;>intro hT
    ·refine .bind (mc _ env lead unit r ds ns o?) fun y hy=>?_;subst hy;refine next (env,lead,unit,_,ds,ns) ?_
     refine eP hI ?_ ?_ ?_ ?_ Fm;rfl;rfl;rfl;exact⟨u?,z?,⟨u?,u?⟩,u?,z?,fun _=>rfl,z?,z?,by simp[dG]⟩
    have hnl:=hI.nl;refine .bind (Jv x.text r ds ns o?) fun w hw=>?_;refine .bind (U8 w.1 x.text o? up r ds ns o? hI w.2 ⟨hw.1,hw.2.1⟩ ⟨hw.2.2.1,hw.2.2.2⟩) fun y hy=>?_;obtain⟨r',Sa,rfl,hy⟩:=hy;refine next (env,lead,unit,r',Sa,w.2) ⟨hy.e1,hy.e2,hy.e3, ?_,hy.inv,hy.ns⟩
    obtain⟨t,t1,t2,t3⟩:=hy.ex;exact⟨t,t1,t2,o?⟩
   have k3:=hT;have hkd:0<=x.kind/\x.kind<=3:=by cases hSx;assumption
   refine .bind (Vf x o? hSx o? up hE r ds ns o? hI ?_) fun v hv=>?_
   ·intro up r ds ns hr hI;exact ih (qR (x.qD.l.map pQ)) o? x.qD (ju _) o? (by cases hSx;assumption) up r ds ns o? hI
   exact next v hv
 rw[zZ.eq_1];exact .bind (key l.l 0 r ds ns rfl hr hI) fun v hv=> .ret hv
theorem Tc(hE:GX env lead unit)(l:Sl qA)(hl:qR (l.l.map pQ)<=8192002)(hS:Kv l)(up:Int):qM (nW l up env lead unit) (oU env lead unit up [] [] (qR (l.l.map pQ))):=by
 have hlen:=xI ct l.l;have key: ∀(q:List qA)(k:Nat)(r:List Pt)(ds:List Int)(ns:List qa),l.l.drop k=q->r.length+2*qR (q.map pQ)<=40000000->sD r ds ns->
   qM (zK (l,up,(k:Int),env,lead,unit,r,ds,ns)) (oU env lead unit up r ns (qR (q.map pQ))):=by
  intro q;induction q with
  |nil=>
   intro k r ds ns hk hr hI;rw[zK.eq_1,if_neg (by simpa using yx hk)];exact .ret ⟨rfl,rfl,rfl,⟨[],z?,.nil _ _,z?⟩,hI,ju _⟩
  |cons x q ihq=>
   intro k r ds ns hk hr hI;obtain⟨a1,a2,a3,a4⟩:=vn hk;have hx:=j9 (f:=pQ) a4;have hxw:=nN x;have Fm:=ct x;simp only[d?,qR]at hr |-;have hSx:=hS x a4;have next: ∀v:Sl qx×qa×qa×List Pt×List Int×List qa,oU env lead unit up r ns (pQ x) v->
     qM (zK (l,up,((k+1:Nat):Int),v.1,v.2.1,v.2.2.1,v.2.2.2.1,v.2.2.2.2.1,v.2.2.2.2.2)) (oU env lead unit up r ns (pQ x+qR (q.map pQ))):=by
    intro v hv;have:=hv.len;rw[hv.e1,hv.e2,hv.e3];exact(ihq (k+1) _ _ _ a3 o? hv.inv).mono fun w hw=>hv.trans hw
   rw[zK.eq_1,if_pos (by simpa using a1),l9 o? a1];refine .go a2 ?_;refine .tI ?_ ?_<;>intro hT
   ·refine .bind (Xu x.text lead unit o? hE.lead hE.unit) fun t ht=>?_;refine .bind (mc _ env lead unit r ds ns o?) fun y hy=>?_;subst hy;refine next (env,lead,unit,_,ds,ns) ?_
    refine eP hI ?_ ?_ ?_ ?_ Fm;rfl;rfl;rfl;exact⟨u?,z?,⟨u?,u?⟩,by have:=H8;unfold db lZ at this;simp only[this];omega,z?,fun _=>rfl,z?,ht,by simp[dG]⟩
   have k0:=hT;refine .tI ?_ ?_<;>intro hT
   ·have k3:=hT;refine .bind (YB x.text env hE.len) fun v hv=>?_;have Na:v.1.length<=1048576:=by
     rcases hv with ⟨p,p1,p2⟩|⟨p1,_⟩
     ·rw[p2];exact hE.val p p1
     rw[p1];simp
    refine .tI ?_ ?_<;>intro hT
    ·refine .bind (mc _ env lead unit r ds ns o?) fun y hy=>?_;subst hy;refine next (env,lead,unit,_,ds,ns) ?_
     refine eP hI ?_ ?_ ?_ ?_ Fm;rfl;rfl;rfl;exact⟨u?,z?,⟨u?,u?⟩,u?,z?,fun _=>rfl,fun _=>Na,u?,by simp[dG]⟩
    refine .tI ?_ ?_<;>intro hT
    ·refine .bind (YJ hE (qR (x.qD.l.map pQ)) x.qD (ju _) o? (by cases hSx;assumption) up r ds ns o? hI) fun v hv=>?_;refine next v ⟨hv.e1,hv.e2,hv.e3, ?_,hv.inv,hv.ns⟩
     obtain⟨t,t1,t2,t3⟩:=hv.ex;exact⟨t,t1,t2,o?⟩
    refine .bind (Js x.text) fun v _=>?_;refine .tI ?_ ?_<;>intro hT
    ·refine .bind (mc _ env lead unit r ds ns o?) fun y hy=>?_;subst hy;refine next (env,lead,unit,_,ds,ns) ?_
     refine eP hI ?_ ?_ ?_ ?_ Fm;rfl;rfl;rfl;exact⟨u?,z?,⟨u?,u?⟩,u?,z?,fun _=>rfl,z?,z?,by simp[dG]⟩
    have hnl:=hI.nl;refine .bind (Jv x.text r ds ns o?) fun w hw=>?_;refine .bind (U8 w.1 x.text o? up r ds ns o? hI w.2 ⟨hw.1,hw.2.1⟩ ⟨hw.2.2.1,hw.2.2.2⟩) fun y hy=>?_;obtain⟨r',Sa,rfl,hy⟩:=hy;refine next (env,lead,unit,r',Sa,w.2) ⟨hy.e1,hy.e2,hy.e3, ?_,hy.inv,hy.ns⟩
    obtain⟨t,t1,t2,t3⟩:=hy.ex;exact⟨t,t1,t2,o?⟩
   have k3:=hT;have hkd:0<=x.kind/\x.kind<=3:=by cases hSx;assumption
   refine .bind (Vf x o? hSx o? up hE r ds ns o? hI ?_) fun v hv=>?_
   ·intro up r ds ns hr hI;exact YJ hE (qR (x.qD.l.map pQ)) x.qD (ju _) o? (by cases hSx;assumption) up r ds ns o? hI
   exact next v hv
 unfold nW;exact .bind (key l.l 0 [] [] [] rfl v? ⟨z?,by simp[defs],by simp[defs],z?,z?⟩) fun v hv=> .ret hv
end
def core(x:Pt):Pt:={ x with n:=0,first:=false }
theorem tB.K3{up:Int}{b:Nat}{l:List Pt}(h:tB up b l): ∀{l' :List Pt},l'.map core=l.map core->tB up b l' :=by induction h with|nil up b=>intro l' h;simp at h;subst h;exact .nil _ _|cons up b x qD rest hu he hd ho hk _ Gx Kj=>intro l' h;rw[d?,List.map_append]at h;cases l' with|nil=>simp at h|cons y t=>(simp only[d?,List.cons.injEq]at h;obtain⟨h1,h2⟩:=h;obtain⟨k',r',rfl,e1,e2⟩:=List.map_eq_append_iff.1 h2;have e3:k'.length=qD.length:=by simpa using congrArg List.length e1);have e4:y.up=x.up:=(congrArg (·.up) h1:(core y).up=(core x).up);have e5:y.end_=x.end_:=(congrArg (·.end_) h1:(core y).end_=(core x).end_);have e6:y.jg=x.jg:=(congrArg (·.jg) h1:(core y).jg=(core x).jg);have e7:y.opts=x.opts:=(congrArg (·.opts) h1:(core y).opts=(core x).opts);refine .cons up b y k' r' (e4.trans hu) (by rw[e5,he,e3]) (fun h=>?_) (fun h=>?_) (Gx e1) (by rw[e3];exact Kj e2);exact tW;exact tW
theorem tB.end_{up:Int}{b:Nat}{l:List Pt}(h:tB up b l): ∀(i:Nat)(x:Pt),l[i]? =some x->((b+i:Nat):Int)<x.end_/\x.end_<=((b+l.length:Nat):Int):=by induction h with|nil up b=>intro i x h;simp at h|cons up b x qD rest hu he hd ho hk _ Gx Kj=>intro i y h;exact tW
structure B2 (x:Pt):Prop where
 kind:0<=x.kind/\x.kind<=2
 other:x.kind≠1->x.jg=false/\x.opts.l=[]
 qU:yP x.qU<=1000000000
 dt:x.jg=true->x.qQ=false
 od:x.jg=false->x.opts.l=[]
 tt:x.qQ=true->x.text.length<=1048576
 tl:x.text.length<=17592186044416
 ol:(∀ o∈x.opts.l,o.length<=17592186044416)/\Uv x.opts=0/\x.opts.l.length<=8192002
structure Good (P:List Pt):Prop where
 seg:tB (-1) 0 P
 ok: ∀x∈P,B2 x
 n: ∀x∈P,0<=x.n/\x.n<=100000000
 un:(defs P).Nodup
 len:P.length<=40000000
theorem B2.K3{x y:Pt}(h:B2 x)(e:core y=core x):B2 y:=by have e1:y.kind=x.kind:=(congrArg (·.kind) e:(core y).kind=(core x).kind);have e2:y.jg=x.jg:=(congrArg (·.jg) e:(core y).jg=(core x).jg);have e3:y.opts=x.opts:=(congrArg (·.opts) e:(core y).opts=(core x).opts);have e4:y.qU=x.qU:=(congrArg (·.qU) e:(core y).qU=(core x).qU);have e5:y.qQ=x.qQ:=(congrArg (·.qQ) e:(core y).qQ=(core x).qQ);have e6:y.text=x.text:=(congrArg (·.text) e:(core y).text=(core x).text);exact⟨e1 ▸ h.kind,by rw[e1,e2,e3];exact h.other,e4 ▸ h.qU,by rw[e2,e5];exact h.dt,by rw[e2,e3];exact h.od,by rw[e5,e6];exact h.tt,e6 ▸ h.tl,by rw[e3];exact h.ol⟩
theorem Ls{l l' :List Pt}(h:l'.map core=l.map core){y:Pt}(hy:y∈l'): ∃x∈l,core y=core x:=by
 have:core y∈l.map core:=by rw[<- h];exact G?.2 ⟨y,hy,rfl⟩
 exact tW
section
variable {env:Sl qx} {lead unit:qa}
theorem LP(r:List Pt)(ds:List Int)(ns:List qa)(hl:r.length<=40000000)(hn: ∀x∈r,x.n<=9999): ∀(q:List Pt)(k:Nat)(m:Int),r.drop k=q->0<=m->m<=9999->(∀ i x,i<k->r[i]? =some x->x.n<=m)->
  qM (jL (m,(k:Int),env,lead,unit,r,ds,ns)) (fun v=>0<=v/\v<=9999/\ ∀x∈r,x.n<=v):=by intro q;induction q with|nil=>intro k m hk h0 h1 hm;rw[jL.eq_1,if_neg (by simpa using yx hk)];refine .ret ⟨h0,h1,fun x hx=>?_⟩;obtain⟨i,hi⟩:=jI hx;have:=vV hk;exact hm i x (by have:=(qL hi).1;omega) hi|cons x q ih=>intro k m hk h0 h1 hm;obtain⟨a1,a2,a3,a4⟩:=vn hk;obtain⟨b1,_,_⟩:=drop_cons hk;have hx:=hn x a4;rw[jL.eq_1,if_pos (by simpa using a1),l9 o? a1];refine .go a2 ?_;refine ih (k+1) _ a3 (by split<;>omega) (by split<;>omega) ?_;intro i y hi hy;by_cases h:i=k;exact tW;have:=hm i y o? hy;split<;>omega
def HZ(m n:Int):Int:=if n<0 then m-n else n
def X9(m:Int)(x:Pt):Pt:={ x with n:=HZ m x.n }
theorem ren_tot(ds:List Int)(ns:List qa)(m:Int)(h0:0<=m)(h1:m<=9999): ∀(B A:List Pt),(A++B).length<=40000000->(∀ x∈B,-40000000<=x.n)->
  qM (jj (m,(A.length:Int),env,lead,unit,A++B,ds,ns)) (fun v=>v=A++B.map (X9 m)):=by intro B;induction B with|nil=>intro A hl hn;rw[jj.eq_1,if_neg z?];exact .ret rfl|cons x B ih=>intro A hl hn;have hx:=hn x z?;rw[jj.eq_1,if_pos v?];refine .go (ZL _ _ _) ?_;simp only[s?,b?]at hl;rw[wr (n:=(A.length:Int)+1) o? o?];have e:A++(x::B).map (X9 m)=(A++[X9 m x])++B.map (X9 m):=z?;have e2:((A.length:Int)+1)=((A++[X9 m x]).length:Int):=z?;rw[e];refine .tI ?_ ?_<;>intro hT;(rw[X?,Ks,wr (n:=m-x.n) o? o?,e2];have e3:A++(qb.mk x.kind x.text (m-x.n) x.jg x.first x.qQ x.qU x.opts x.up x.end_)::B=(A++[X9 m x])++B:=by simp[X9,HZ,hT]);rw[e3];exact ih _ v? fun y hy=>hn y (by simp[hy]);(rw[e2];have e3:A++x::B=(A++[X9 m x])++B:=by have: ¬x.n<0:=o?;simp[X9,HZ,this]);rw[e3];exact ih _ v? fun y hy=>hn y (by simp[hy])
theorem QU(n:Int)(r:List Pt)(ds:List Int)(ns:List qa)(hl:r.length<=40000000):
  qM (wy n env lead unit r ds ns) (fun v=>(v= -1/\ ∀x∈r,x.kind=1->x.jg=true->x.n≠n)\/ ∃(d:Nat)(x:Pt),v=d/\r[d]? =some x/\x.kind=1/\x.jg=true/\x.n=n):=by
 have key: ∀(q:List Pt)(k:Nat),r.drop k=q->qM (xp (n,(k:Int),env,lead,unit,r,ds,ns)) (fun v=>match v with| .inl v=> ∃(d:Nat)(x:Pt),v=d/\r[d]? =some x/\x.kind=1/\x.jg=true/\x.n=n| .inr _=> ∀x∈q,x.kind=1->x.jg=true->x.n≠n):=by intro q;induction q with|nil=>intro k hk;rw[xp.eq_1,if_neg (by simpa using yx hk)];exact .ret z?|cons x q ih=>(intro k hk;obtain⟨a1,a2,a3,a4⟩:=vn hk;obtain⟨b1,_,_⟩:=drop_cons hk;have next: ¬(x.kind=1/\x.jg=true/\x.n=n)->qM (xp (n,((k+1:Nat):Int),env,lead,unit,r,ds,ns)) (fun v=>match v with| .inl v=> ∃(d:Nat)(x:Pt),v=d/\r[d]? =some x/\x.kind=1/\x.jg=true/\x.n=n| .inr _=> ∀y∈x::q,y.kind=1->y.jg=true->y.n≠n):=by intro h;exact tW);rw[xp.eq_1,if_pos (by simpa using a1),l9 o? a1];exact tW
 unfold wy;refine .bind (key r 0 rfl) fun v hv=>?_;rcases v with v|v;exact .ret (.inr hv);exact .ret (.inl ⟨rfl,hv⟩)
theorem DV(ds:List Int)(ns:List qa): ∀(B A:List Pt)(xc:List Int),(A++B).length<=40000000->xc.length<=A.length->
  qM (zx ((A.length:Int),env,lead,unit,A++B,ds,ns,xc)) (fun v=>v.1.map core=(A++B).map core/\v.1.map (·.n)=(A++B).map (·.n)):=by intro B;induction B with|nil=>intro A xc hl ht;rw[zx.eq_1,if_neg z?];exact .ret ⟨rfl,rfl⟩|cons x B ih=>(intro A xc hl ht;rw[zx.eq_1,if_pos v?];refine .go (ZL _ _ _) ?_;have hl' :=hl;simp only[s?,b?]at hl;rw[wr (n:=(A.length:Int)+1) o? o?];have e1: ∀y:Pt,((A.length:Int)+1)=((A++[y]).length:Int):=fun y=>z?;have e2: ∀y:Pt,A++y::B=(A++[y])++B:=fun y=>z?;have skip: ∀t:List Int,t.length<=A.length+1->qM (zx ((A.length:Int)+1,env,lead,unit,A++x::B,ds,ns,t)) (fun v=>v.1.map core=(A++x::B).map core/\v.1.map (·.n)=(A++x::B).map (·.n)):=by intro t h;rw[e1 x,e2 x];exact ih (A++[x]) t v? (by simpa using h));(have mark:qM (zx ((A.length:Int)+1,env,lead,unit,((A++x::B).set (A.length:Int).toNat (qb.mk x.kind x.text x.n x.jg true x.qQ x.qU x.opts x.up x.end_)),ds,ns,xc++[x.n])) (fun v=>v.1.map core=(A++x::B).map core/\v.1.map (·.n)=(A++x::B).map (·.n)):=by rw[X?,Ks,e1 x,show(A++[x]).length=(A++[qb.mk x.kind x.text x.n x.jg true x.qQ x.qU x.opts x.up x.end_]).length by simp,e2];refine(ih _ _ v? v?).mono fun v hv=>⟨hv.1.trans ?_,hv.2.trans ?_⟩;simp[core];simp);(have bk:qi (xc.length+1) 8=true:=by simp only[qi,zU,decide_eq_true_eq];omega);refine .tI ?_ ?_<;>intro hT;refine .tI ?_ ?_<;>intro hT;exact .zE bk mark;refine .tI ?_ ?_<;>intro hT;refine .bind (QU x.n _ ds ns hl') fun v _=>?_;refine .tI ?_ ?_<;>intro hT;refine .bind (tV x.n xc o?) fun w _=>?_;refine .tI ?_ ?_<;>intro hT;exact .zE bk mark;exact skip xc o?;exact skip xc o?;exact skip xc o?;exact skip xc o?
theorem ren_inj{m a b:Int}(ha:a<=m)(hb:b<=m)(h0:0<=m)(h:HZ m a=HZ m b):a=b:=by unfold HZ at h;split at h<;>split at h<;>omega
theorem Yr: ∀{l l' :List Pt},l'.map core=l.map core->l'.map (·.n)=l.map (·.n)->defs l' =defs l
 |[],[],_,_=>rfl
 |[],_::_,h,_=>by simp at h
 |_::_,[],h,_=>by simp at h
 |x::l,y::l',h1,h2=>by simp only[d?,List.cons.injEq]at h1 h2;have e:y.jg=x.jg:=(congrArg (·.jg) h1.1:(core y).jg=(core x).jg);have ih:=Yr h1.2 h2.2;unfold defs at ih |-;simp only[F!,e];cases x.jg;simpa using ih;simp[h2.1,ih]
theorem Od(m:Int)(l:List Pt):defs (l.map (X9 m))=(defs l).map (HZ m):=by induction l with|nil=>rfl|cons x l ih=>unfold defs at ih |-;simp only[d?,F!,X9];exact tW
theorem U0{α β:Type}{f:α->β}: ∀{l:List α},l.Nodup->(∀ a∈l,∀ b∈l,f a=f b->a=b)->(l.map f).Nodup
 |[],_,_=>z?
 |x::l,h,hf=>by rw[i!]at h;rw[d?,i!];refine⟨fun hm=>?_,U0 h.2 fun a ha b hb=>hf a (by simp[ha]) b (by simp[hb])⟩;obtain⟨y,hy,e⟩:=G?.1 hm;have:=hf x z? y (by simp[hy]) e.symm;exact h.1 (this ▸ hy)
theorem Hv(r:List Pt)(ds:List Int)(ns:List qa)(hs:tB (-1) 0 r)(hI:sD r ds ns)(hl:r.length<=40000000):qM (gA env lead unit r ds ns) Good:=by
 have hnl:=hI.nl;unfold gA;refine .bind (LP r ds ns hl (fun x hx=>(hI.ok x hx).n.2) r 0 0 rfl o? o? o?) fun m hm=>?_;have h2:=ren_tot (env:=env) (lead:=lead) (unit:=unit) ds ns m hm.1 hm.2.1 r [] (by simpa using hl) (fun x hx=>by have:=(hI.ok x hx).n;omega);simp only[List.nil_append,List.length_nil]at h2;refine .bind h2 fun p hp=>?_;subst hp;have h4:=DV (env:=env) (lead:=lead) (unit:=unit) ds ns (r.map (X9 m)) [] [] (by simpa using hl) z?;simp only[List.nil_append,List.length_nil]at h4;refine .bind h4 fun v hv=> .ret ?_;have hc:v.1.map core=r.map core:=by rw[hv.1,List.map_map];exact List.map_congr_left fun x _=>rfl
 have hd:defs v.1=(defs r).map (HZ m):=by rw[Yr hv.1 hv.2,Od]
 refine⟨hs.K3 hc,fun y hy=>?_,fun y hy=>?_, ?_, ?_⟩;obtain⟨x,hx,e⟩:=Ls hc hy;have h:=hI.ok x hx;exact B2.K3 ⟨h.kind,fun k=>(h.other k).2,h.qU,h.dt,h.od,h.tt,h.tl,h.ol⟩ e;(have:y.n∈(r.map (X9 m)).map (·.n):=by rw[<- hv.2];exact List.mem_map.2 ⟨y,hy,rfl⟩);simp only[List.map_map,List.mem_map,Function.comp]at this;obtain⟨x,hx,e⟩:=this;have h:=(hI.ok x hx).n;rw[<- e];simp only[X9,HZ];split<;>omega;(rw[hd];have hle: ∀a∈defs r,a<=m:=by intro a ha;obtain⟨x,hx,rfl⟩:=List.mem_map.1 ha;exact hm.2.2 x (List.mem_filter.1 hx).1);exact U0 hI.un fun a ha b hb=>ren_inj (hle a ha) (hle b hb) hm.1;have:=congrArg List.length hc;simp only[List.length_map]at this;omega
end
def Holds(P:List Pt)(n m:Int):Prop:= ∃(d e:Nat)(x y:Pt),P[d]? =some x/\x.kind=1/\x.jg=true/\x.n=n/\d<e/\(e:Int)<x.end_/\P[e]? =some y/\y.kind=1/\y.n=m
def UC(P:List Pt):Prop:= ∀n,¬ S? (Holds P) n n
theorem XT: ∀{a b:List Int},a.Nodup->(∀ x∈a,x∈b)->a.length<=b.length
 |[],b,_,_=>E! _
 |x::a,b,h,hb=>by (rw[i!]at h;have hx:=hb x z?;have h1: ∀y∈a,y∈b.erase x:=fun y hy=>by have jZ:y≠x:=fun e=>h.1 (e ▸ hy);exact(List.mem_erase_of_ne jZ).2 (hb y (by simp[hy])));have h2:=XT h.2 h1;have h3:=List.length_erase_of_mem hx;have h4:=List.length_pos_of_mem hx;simp only[b?];omega
section
variable {env:Sl qx} {lead unit:qa}
theorem Le(P:List Pt)(ds:List Int)(ns:List qa)(hl:P.length<=40000000)(d:Nat)(x:Pt)(hd:P[d]? =some x)(he:x.end_<=P.length): ∀(m i:Nat)(l:List Int),m=(x.end_-i).toNat->l.length<=100000000-m->
  qM (kU ((d:Int),(i:Int),env,lead,unit,P,ds,ns,l)) (fun v=>(∀ n,n∈v↔n∈l\/ ∃(j:Nat)(y:Pt),i<=j/\(j:Int)<x.end_/\P[j]? =some y/\y.kind=1/\y.n=n)/\(l.Nodup->v.Nodup)):=by intro m;induction m using r? with|_ m ih=>(intro i l hm Fa;have hdl:=(qL hd).1;have hgd:qh P (d:Int)=some x:=by rw[xk hdl];simpa[wK hdl]using hd);rw[kU.eq_1];refine .go hgd ?_;have:= @wr;have:= @tV;exact tW
theorem in2_L0(P:List Pt)(ds:List Int)(ns:List qa)(hl:P.length<=40000000)(d:Nat)(x:Pt)(hd:P[d]? =some x)(he:x.end_<=P.length): ∀(m i:Nat)(l:List Int),m=(x.end_-i).toNat->l.length<=100000000-m->
  qM (jn ((d:Int),(i:Int),env,lead,unit,l,P,ds,ns)) (fun v=>(∀ n,n∈v↔n∈l\/ ∃(j:Nat)(y:Pt),i<=j/\(j:Int)<x.end_/\P[j]? =some y/\y.kind=1/\y.n=n)/\(l.Nodup->v.Nodup)/\ ∃t,v=l++t):=by
 intro m;induction m using r? with
  |_ m ih=>
   (intro i l hm Fa;have hdl:=(qL hd).1;have hgd:qh P (d:Int)=some x:=by rw[xk hdl];simpa[wK hdl]using hd);rw[jn.eq_1];refine .go hgd ?_;refine .tI ?_ ?_<;>intro hT
   ·have hi:=hT;refine .bind .get fun y hy=>?_;have hyi:P[i]? =some y:=by simpa using hy.1
    rw[wr (n:=(i:Int)+1) o? o?,show((i:Int)+1)=((i+1:Nat):Int) by omega];have next: ∀l',l'.length<=l.length+1->(∀ n,n∈l' ↔n∈l\/(y.kind=1/\y.n=n))->(l.Nodup->l'.Nodup)->(∃ t,l' =l++t)->
      qM (jn ((d:Int),((i+1:Nat):Int),env,lead,unit,l',P,ds,ns)) (fun v=>(∀ n,n∈v↔n∈l\/ ∃(j:Nat)(y:Pt),i<=j/\(j:Int)<x.end_/\P[j]? =some y/\y.kind=1/\y.n=n)/\(l.Nodup->v.Nodup)/\ ∃t,v=l++t):=by
     intro l' h1 h2 h3 h4;refine(ih _ o? (i+1) l' rfl o?).mono fun v hv=>⟨fun n=>?_,fun h=>hv.2.1 (h3 h), ?_⟩
     ·rw[hv.1 n,h2 n];constructor
      ·rintro((h|h)|⟨j,z,j1,j2,j3,j4,j5⟩)
       ·exact .inl h
       ·exact .inr ⟨i,y,ju _,hi,hyi,h.1,h.2⟩
       exact .inr ⟨j,z,o?,j2,j3,j4,j5⟩
      rintro(h|⟨j,z,j1,j2,j3,j4,j5⟩)
      ·exact .inl (.inl h)
      rcases q0i j1 with rfl|j1
      ·rw[hyi]at j3;cases j3;exact .inl (.inr ⟨j4,j5⟩)
      exact .inr ⟨j,z,j1,j2,j3,j4,j5⟩
     obtain⟨t1,rfl⟩:=h4;obtain⟨t2,h⟩:=hv.2.2;exact⟨t1++t2,by rw[h,v_]⟩
    refine .tI ?_ ?_<;>intro hT;{have hk:=hT;refine .bind (tV y.n l o?) fun w hw=>?_;refine .tI ?_ ?_<;>intro hT;{(have Wp:=hT;have hnot:y.n∉l:=fun h=>by have:=hw.2 h;rw[Wp]at this;cases this);refine .zE (by simp only[qi,zU,decide_eq_true_eq];omega) (next _ z? (fun n=>?_) (fun h=>?_) ⟨_,rfl⟩);simp only[p?,c?,hk,true_and];exact or_congr_right eq_comm;refine D?.2 ⟨h,z?,fun a ha b hb=>?_⟩;simp only[c?]at hb;subst hb;exact fun e=>hnot (e ▸ ha)};(have Wp:=hw.1 hT;refine next l o? (fun n=>?_) id ⟨[],z?⟩);constructor;exact .inl;rintro(h|⟨_,rfl⟩);exact h;exact Wp};have hk:=hT;exact next l o? (fun n=>⟨.inl,fun h=>h.elim id fun h=>absurd h.1 hk⟩) id ⟨[],z?⟩
   have hi:=hT;refine .ret ⟨fun n=>⟨.inl,fun h=>h.elim id ?_⟩,id,[],z?⟩;rintro⟨j,z,j1,j2,_⟩;omega
theorem Ke: ∀{P:List Pt}{i j:Nat}{x y:Pt},(defs P).Nodup->P[i]? =some x->P[j]? =some y->x.jg=true->y.jg=true->x.n=y.n->i=j
 |[],i,j,x,y,_,h1,_,_,_,_=>by simp at h1
 |z::P,i,j,x,y,hn,h1,h2,d1,d2,e=>by
  have tail:(defs P).Nodup:=by unfold defs at hn |-;exact tW
  have mem: ∀{k:Nat}{w:Pt},P[k]? =some w->w.jg=true->w.n∈defs P:=fun h hd=>
   G?.2 ⟨_,Z'.2 ⟨zc h,hd⟩,rfl⟩
  (have head:z.jg=true->z.n∉defs P:=by intro hz;unfold defs at hn |-;exact tW);cases i with|zero=>exact tW|succ i=>cases j with|zero=>exact tW|succ j=>simp only[i?]at h1 h2;rw[Ke tail h1 h2 d1 d2 e]
theorem Good.end_{P:List Pt}(hP:Good P){i:Nat}{x:Pt}(h:P[i]? =some x):(i:Int)<x.end_/\x.end_<=P.length:=by have:=hP.seg.end_ i x h;simpa using this
theorem BF(P:List Pt)(ds:List Int)(ns:List qa)(hP:Good P)(i:Int): ∀(m k:Nat)(l:List Int),m=P.length+1-k->l.Nodup->(∀ n∈l,n∈P.map (·.n))->(∀(j:Nat)(n:Int),j<k->l[j]? =some n-> ∀n',Holds P n n' ->n' ∈l)->k<=l.length->
  qM (kP (i,(k:Int),env,lead,unit,P,ds,ns,l)) (fun v=>(∀ n∈l,n∈v)/\(∀ n∈v,∀ n',Holds P n n' ->n' ∈v)/\v.length<=P.length):=by have hl:=hP.len;intro m;induction m using r? with|_ m ih=>(intro k l hm Ef Z1 Xi pd;have Fa:l.length<=P.length:=by simpa using XT Ef Z1);rw[kP.eq_1];refine .tI ?_ ?_<;>intro hT;(have hk:=hT;refine .bind .get fun n hn=>?_;have hnk:l[k]? =some n:=by simpa using hn.1);rw[wr (n:=(k:Int)+1) o? o?,show((k:Int)+1)=((k+1:Nat):Int) by omega];refine .bind (QU n P ds ns hl) fun v hv=>?_;refine .tI ?_ ?_<;>intro hT;have Hh:=hT;rcases hv with ⟨rfl,_⟩|⟨d,x,rfl,hd,x1,x2,x3⟩;omega;(have he:=hP.end_ hd;have h2:=in2_L0 (env:=env) (lead:=lead) (unit:=unit) P ds ns hl d x hd he.2 _ (d+1) l rfl o?;have h2' :qM (nV (d:Int) env lead unit l P ds ns) (fun v=>(∀ n,n∈v↔n∈l\/ ∃(j:Nat)(y:Pt),d+1<=j/\(j:Int)<x.end_/\P[j]? =some y/\y.kind=1/\y.n=n)/\(l.Nodup->v.Nodup)/\ ∃t,v=l++t):=by unfold nV;rw[wr (n:=(d:Int)+1) (by have:=he.1;omega) o?,show((d:Int)+1)=((d+1:Nat):Int) by omega];exact .bind h2 fun v hv=> .ret hv);(refine .bind h2' fun w hw=>?_;obtain⟨t,ht⟩:=hw.2.2;have hwn:=hw.2.1 Ef;have hsub2: ∀n∈w,n∈P.map (·.n):=by intro q hq;rcases(hw.1 q).1 hq with h|⟨j,y,_,_,j3,_,j5⟩;exact Z1 q h;exact G?.2 ⟨y,zc j3,j5⟩);have Sv: ∀q∈l,q∈w:=fun q hq=>(hw.1 q).2 (.inl hq);refine(ih _ o? (k+1) w rfl hwn hsub2 ?_ (by rw[ht];simp;omega)).mono fun v hv=>⟨fun q hq=>hv.1 q (Sv q hq),hv.2⟩;intro j q hj hq n' Fb;by_cases Vr:j=k;(subst Vr;have hqn:q=n:=by rw[ht,t? o?,hnk]at hq;exact(Option.some.inj hq).symm);subst hqn;obtain⟨d',e,x',y,p1,p2,p3,p4,p5,p6,p7,p8,p9⟩:=Fb;have hdd:d' =d:=Ke hP.un p1 hd p3 x2 (p4.trans x3.symm);subst hdd;rw[hd]at p1;cases p1;exact(hw.1 n').2 (.inr ⟨e,y,o?,p6,p7,p8,p9⟩);(have OV:l[j]? =some q:=by rw[ht,t? o?]at hq;exact hq);exact Sv n' (Xi j q o? OV n' Fb);have Hh:=hT;refine ih _ o? (k+1) l rfl Ef Z1 ?_ o?;intro j q hj hq n' Fb;by_cases Vr:j=k;subst Vr;rw[hnk]at hq;cases hq;obtain⟨d',e,x',y,p1,p2,p3,p4,_⟩:=Fb;rcases hv with ⟨_,hv⟩|⟨d,x,rfl,_⟩;exact absurd p4 (hv x' (zc p1) p2 p3);omega;exact Xi j q o? hq n' Fb;refine .ret ⟨fun _ h=>h,fun n hn n' Fb=>?_,Fa⟩;obtain⟨j,hj⟩:=jI hn;exact Xi j n (by have:=(qL hj).1;omega) hj n' Fb
theorem Tj(P:List Pt)(ds:List Int)(ns:List qa)(hP:Good P):qM (nX env lead unit P ds ns) (fun v=>v=false->UC P):=by
 have hl:=hP.len;have key: ∀(q:List Pt)(k:Nat),P.drop k=q->qM (xT ((k:Int),env,lead,unit,P,ds,ns)) (fun v=>match v with| .inl v=>v=true| .inr _=> ∀(d:Nat)(x:Pt),k<=d->P[d]? =some x->x.kind=1->x.jg=true-> ¬S? (Holds P) x.n x.n):=by intro q;induction q with|nil=>intro k hk;rw[xT.eq_1,if_neg (by simpa using yx hk)];refine .ret fun d x hd h=>?_;have:=vV hk;have:=(qL h).1;omega|cons x q ih=>(intro k hk;obtain⟨a1,a2,a3,a4⟩:=vn hk;obtain⟨b1,_,_⟩:=drop_cons hk;have next:(x.kind=1->x.jg=true-> ¬S? (Holds P) x.n x.n)->qM (xT (((k+1:Nat):Int),env,lead,unit,P,ds,ns)) (fun v=>match v with| .inl v=>v=true| .inr _=> ∀(d:Nat)(x:Pt),k<=d->P[d]? =some x->x.kind=1->x.jg=true-> ¬S? (Holds P) x.n x.n):=by intro h;refine(ih (k+1) a3).mono fun v hv=>?_;rcases v with v|v;exact hv;intro d y hd hy h1 h2;rcases q0i hd with rfl|hd;rw[b1]at hy;cases hy;exact h h1 h2;exact hv d y hd hy h1 h2);rw[xT.eq_1,if_pos (by simpa using a1),l9 o? a1];refine .go a2 ?_;refine .tI ?_ ?_<;>intro hT;{have h0:=hT;exact next fun h=>absurd h h0};have h1:=hT;refine .tI ?_ ?_<;>intro hT;{have h0:=hT;exact next fun _ h=>by rw[h0]at h;cases h};(have h2:=hT;have he:=hP.end_ b1;have dm:qM (tg (k:Int) env lead unit P ds ns) (fun v=>(∀ n,n∈v↔n∈([]:List Int)\/ ∃(j:Nat)(y:Pt),k+1<=j/\(j:Int)<x.end_/\P[j]? =some y/\y.kind=1/\y.n=n)/\(([]:List Int).Nodup->v.Nodup)):=by unfold tg;rw[wr (n:=(k:Int)+1) o? o?,show((k:Int)+1)=((k+1:Nat):Int) by omega];exact .bind (Le P ds ns hl k x b1 he.2 _ (k+1) [] rfl z?) fun v hv=> .ret hv);(refine .bind dm fun v hv=>?_;have hvn:=hv.2 z?;have Ej: ∀n∈v,n∈P.map (·.n):=by intro q hq;rcases(hv.1 q).1 hq with h|⟨j,y,_,_,j3,_,j5⟩;cases h;exact G?.2 ⟨y,zc j3,j5⟩);(have hc:=BF (env:=env) (lead:=lead) (unit:=unit) P ds ns hP (k:Int) _ 0 v rfl hvn Ej (fun j n hj=>o?) (E! _);refine .bind hc fun w hw=>?_;have OP:w.length<=1099511627776:=by have:=hw.2.2;omega);refine .bind (tV x.n w OP) fun y hy=>?_;refine .tI ?_ ?_<;>intro hT;exact .ret rfl;(have hy1:=hT;refine next fun _ _ hloop=>?_);(have all: ∀m,S? (Holds P) x.n m->m∈w:=by intro m hm;induction hm with|single h=>obtain⟨d',e,x',z,p1,p2,p3,p4,p5,p6,p7,p8,p9⟩:=h;have hdd:d' =k:=Ke hP.un p1 b1 p3 h2 p4;subst hdd;rw[b1]at p1;cases p1;exact hw.1 _ ((hv.1 _).2 (.inr ⟨e,z,o?,p6,p7,p8,p9⟩))|tail _ h ih=>exact hw.2.1 _ ih _ h);have:=hy.2 (all _ hloop);rw[hy1]at this;cases this
 unfold nX;refine .bind (key P 0 rfl) fun v hv=>?_;rcases v with v|v;(exact .ret fun h=>by rw[hv]at h;cases h);refine .ret fun _ n hn=>?_;have: ∀m,S? (Holds P) n m-> ∃(d:Nat)(x:Pt),P[d]? =some x/\x.kind=1/\x.jg=true/\x.n=n:=by intro m hm;induction hm with|single h=>obtain⟨d',e,x',z,p1,p2,p3,p4,_⟩:=h;exact⟨d',x',p1,p2,p3,p4⟩|tail _ _ ih=>exact ih
 obtain⟨d,x,h1,h2,h3,rfl⟩:=this n hn;exact hv d x (E! _) h1 h2 h3 hn
end
inductive nO (P:List Pt):Int->Nat->Nat->Prop
 |nil (up:Int) (i:Nat):nO P up i i
 |cons (up:Int) (i e hi:Nat) (x:Pt) (hx:P[i]? =some x) (hu:x.up=up) (he:x.end_=(e:Int)) (xS:i<e) (hle:e<=hi) (hk:nO P i (i+1) e) (hd:x.jg=false->e=i+1) (ho:x.opts.l≠[]->e=i+1) (hr:nO P up e hi):nO P up i hi
theorem nO.le{P:List Pt}{up:Int}{i j:Nat}(h:nO P up i j):i<=j:=by cases h<;>omega
theorem tB.chain{up:Int}{b:Nat}{l:List Pt}(h:tB up b l): ∀(pre post:List Pt),pre.length=b->nO (pre++l++post) up b (b+l.length):=by induction h with|nil up b=>intro pre post _;exact .nil _ _|cons up b x qD rest hu he hd ho hk _ Gx Kj=>intro pre post VZ;have e1:b+(x::(qD++rest)).length=b+1+qD.length+rest.length:=v?;have h1:=Gx (pre++[x]) (rest++post) (by simp[VZ]);have h2:=Kj (pre++[x]++qD) post (by simp[VZ];omega);have e2:pre++[x]++qD++(rest++post)=pre++x::(qD++rest)++post:=z?;have e3:pre++[x]++qD++rest++post=pre++x::(qD++rest)++post:=z?;rw[e2]at h1;rw[e3]at h2;rw[e1];refine .cons up b (b+1+qD.length) _ x ?_ hu he o? o? h1 (fun h=>?_) (fun h=>?_) h2;exact tW;rw[hd h];rfl;rw[ho h];rfl
theorem tB.inner{up:Int}{b:Nat}{l:List Pt}(h:tB up b l): ∀(pre post:List Pt),pre.length=b-> ∀(i:Nat)(x:Pt),l[i]? =some x-> ∃e:Nat,x.end_=(e:Int)/\nO (pre++l++post) ((b+i:Nat):Int) (b+i+1) e/\(x.jg=false->e=b+i+1)/\(x.opts.l≠[]->e=b+i+1):=by induction h with|nil up b=>intro pre post _ i x h;simp at h|cons up b x qD rest hu he hd ho hk _ Gx Kj=>intro pre post VZ i y hy;have e2:pre++[x]++qD++(rest++post)=pre++x::(qD++rest)++post:=z?;have e3:pre++[x]++qD++rest++post=pre++x::(qD++rest)++post:=z?;cases i with|zero=>simp only[a?,wd]at hy;subst hy;refine⟨b+1+qD.length,he, ?_,fun h=>?_,fun h=>?_⟩;have h1:=hk.chain (pre++[x]) (rest++post) (by simp[VZ]);rw[e2]at h1;exact h1;rw[hd h];rfl;rw[ho h];rfl|succ i=>simp only[i?]at hy;by_cases hi:i<qD.length;rw[t? hi]at hy;obtain⟨e,f1,f2,f3,f4⟩:=Gx (pre++[x]) (rest++post) (by simp[VZ]) i y hy;rw[e2]at f2;have e4:b+1+i=b+(i+1):=o?;rw[e4]at f2 f3 f4;exact⟨e,f1,f2,f3,f4⟩;rw[J? o?]at hy;obtain⟨e,f1,f2,f3,f4⟩:=Kj (pre++[x]++qD) post (by simp[VZ];omega) (i-qD.length) y hy;exact tW
theorem Good.chain{P:List Pt}(hP:Good P):nO P (-1) 0 P.length:=by have:=hP.seg.chain [] [] rfl;simpa using this
theorem Good.inner{P:List Pt}(hP:Good P){i:Nat}{x:Pt}(h:P[i]? =some x): ∃e:Nat,x.end_=(e:Int)/\nO P (i:Int) (i+1) e/\(x.jg=false->e=i+1)/\(x.opts.l≠[]->e=i+1):=by have:=hP.seg.inner [] [] rfl i x h;simpa using this
def Qn(ns:List Int)(ts:List qa)(n:Int)(t:qa):Prop:= ∃k:Nat,ns[k]? =some n/\ts[k]? =some t/\ ∀j,j<k->ns[j]? ≠some n
theorem Qn.one{ns:List Int}{ts:List qa}{n:Int}{t u:qa}(h1:Qn ns ts n t)(h2:Qn ns ts n u):t=u:=by obtain⟨k,a1,a2,a3⟩:=h1;obtain⟨j,b1,b2,b3⟩:=h2;exact tW
theorem Qn.app{ns:List Int}{ts:List qa}{n:Int}{t:qa}(h:Qn ns ts n t)(a:List Int)(b:List qa):Qn (ns++a) (ts++b) n t:=by obtain⟨k,a1,a2,a3⟩:=h;have k1:=(qL a1).1;have k2:=(qL a2).1;refine⟨k,by rw[t? k1];exact a1,by rw[t? k2];exact a2,fun j hj=>?_⟩;exact tW
theorem Qn.new{ns:List Int}{ts:List qa}(hl:ns.length=ts.length){n:Int}(hn:n∉ns)(t:qa):Qn (ns++[n]) (ts++[t]) n t:=by refine⟨ns.length,z?,by simp[hl],fun j hj=>?_⟩;exact tW
theorem Qn.cases{ns:List Int}{ts:List qa}(hl:ns.length=ts.length){n m:Int}{t u:qa}(hn:n∉ns)(h:Qn (ns++[n]) (ts++[t]) m u):(m=n/\u=t)\/Qn ns ts m u:=by obtain⟨k,a1,a2,a3⟩:=h;by_cases hk:k<ns.length;refine .inr ⟨k,by rw[t? hk]at a1;exact a1,by rw[t? o?]at a2;exact a2,fun j hj=>?_⟩;exact tW;exact tW
def E9(P:List Pt)(ns:List Int)(ts:List qa)(i:Nat)(t:qa):Prop:=
 ∃(x:Pt)(b:qa),P[i]? =some x/\(x.kind=1->Qn ns ts x.n b)/\(x.kind≠1->b=x.text)/\(x.qQ=false->t=b)/\(x.qQ=true-> ∃l,gr x.qU b 20000=some (t,l,0))
theorem E9.app{P:List Pt}{ns:List Int}{ts:List qa}{i:Nat}{t:qa}(h:E9 P ns ts i t)(a:List Int)(b:List qa):E9 P (ns++a) (ts++b) i t:=by obtain⟨x,c,h1,h2,h3,h4,h5⟩:=h;exact⟨x,c,h1,fun k=>(h2 k).app a b,h3,h4,h5⟩
theorem E9.one{P:List Pt}{ns:List Int}{ts:List qa}{i:Nat}{t u:qa}(h1:E9 P ns ts i t)(h2:E9 P ns ts i u):t=u:=by
 obtain⟨x,b,a1,a2,a3,a4,a5⟩:=h1;obtain⟨y,c,b1,b2,b3,b4,b5⟩:=h2;rw[a1]at b1;cases b1;have hbc:b=c:=by by_cases k:x.kind=1;exact(a2 k).one (b2 k);rw[a3 k,b3 k]
 subst hbc;cases ht:x.qQ;rw[a4 ht,b4 ht];exact tW
inductive mg (P:List Pt) (ns:List Int) (ts:List qa):Nat->Nat->qa->Prop
 |nil (i:Nat):mg P ns ts i i []
 |cons (i e hi:Nat) (x:Pt) (t u:qa) (hx:P[i]? =some x) (he:x.end_=(e:Int)) (hv:E9 P ns ts i t) (hr:mg P ns ts e hi u):mg P ns ts i hi (t++u)
theorem mg.app{P:List Pt}{ns:List Int}{ts:List qa}{i j:Nat}{t:qa}(h:mg P ns ts i j t)(a:List Int)(b:List qa):mg P (ns++a) (ts++b) i j t:=by induction h with|nil i=>exact .nil i|cons i e hi x t u hx he hv _ ih=>exact .cons i e hi x t u hx he (hv.app a b) ih
def Txt(P:List Pt)(ns:List Int)(ts:List qa)(n:Int)(t:qa):Prop:=
 (t=[]/\ ∀x∈P,x.kind=1->x.jg=true->x.n≠n)\/ ∃(d e:Nat)(x:Pt),P[d]? =some x/\x.kind=1/\x.jg=true/\x.n=n/\x.end_=(e:Int)/\(x.opts.l≠[]\/mg P ns ts (d+1) e t)
theorem Txt.app{P:List Pt}{ns:List Int}{ts:List qa}{n:Int}{t:qa}(h:Txt P ns ts n t)(a:List Int)(b:List qa):Txt P (ns++a) (ts++b) n t:=by rcases h with h|⟨d,e,x,h1,h2,h3,h4,h5,h6⟩;exact .inl h;exact .inr ⟨d,e,x,h1,h2,h3,h4,h5,h6.imp id fun h=>h.app a b⟩
structure bu (P:List Pt) (ns:List Int) (ts:List qa):Prop where
 len:ns.length=ts.length
 nd:ns.Nodup
 sub: ∀n∈ns,n∈P.map (·.n)
 txt: ∀n t,Qn ns ts n t->Txt P ns ts n t/\t.length<=65536
theorem bu.V1{P:List Pt}{ns:List Int}{ts:List qa}(h:bu P ns ts):ns.length<=P.length:=by simpa using XT h.nd h.sub
theorem bu.more{P:List Pt}{ns:List Int}{ts:List qa}(h:bu P ns ts){n:Int}(hn:n∉ns)(hs:n∈P.map (·.n)){t:qa}(ht:Txt P ns ts n t)(hl:t.length<=65536):bu P (ns++[n]) (ts++[t]) where
 len:=by simp[h.len]
 nd:=by refine D?.2 ⟨h.nd,z?,fun a ha b hb=>?_⟩;exact tW
 sub:=by intro m hm;rcases p?.1 hm with hm|hm;exact h.sub m hm;exact tW
 txt:=by intro m u hu;rcases hu.cases h.len hn with ⟨rfl,rfl⟩|hu;exact⟨ht.app _ _,hl⟩;exact⟨(h.txt m u hu).1.app _ _,(h.txt m u hu).2⟩
theorem Nt(n:Int)(ns:List Int)(ts:List qa)(hl:ns.length<=1099511627776)(he:ns.length=ts.length):qM (ta n ns ts) (fun v=>(v= -1/\n∉ns)\/ ∃(k:Nat)(t:qa),v=k/\ts[k]? =some t/\k<ts.length/\Qn ns ts n t):=by
 have key: ∀(q:List Int)(k:Nat),ns.drop k=q->(∀ j,j<k->ns[j]? ≠some n)->qM (wX (n,(k:Int),ns,ts)) (fun v=>match v with| .inl v=> ∃(k:Nat)(t:qa),v=k/\ts[k]? =some t/\k<ts.length/\Qn ns ts n t| .inr _=>n∉q):=by intro q;induction q with|nil=>intro k hk hj;rw[wX.eq_1,if_neg (by simpa using yx hk)];exact .ret z?|cons c q ih=>intro k hk hj;obtain⟨a1,a2,a3,a4⟩:=vn hk;obtain⟨b1,_,b3⟩:=drop_cons hk;rw[wX.eq_1,if_pos (by simpa using a1),l9 o? a1];refine .go a2 ?_;refine .tI ?_ ?_<;>intro hT;have Sr:k<ts.length:=o?;have ht:ts[k]? =some ts[k]:=wK Sr;exact .ret ⟨k,ts[k],rfl,ht,Sr,k,by rw[b1,hT],ht,hj⟩;have jZ:=hT;refine(ih (k+1) a3 fun j hj2=>?_).mono fun v hv=>?_;rcases Nat.lt_succ_iff_lt_or_eq.1 hj2 with h|rfl;exact hj j h;rw[b1];simpa using jZ;rcases v with v|v;exact hv;intro h;rcases U?.1 h with h|h;exact jZ h.symm;exact hv h
 unfold ta;refine .bind (key ns 0 rfl o?) fun v hv=>?_;rcases v with v|v;exact .ret (.inr hv);exact .ret (.inl ⟨rfl,hv⟩)
noncomputable def mu (P:List Pt) (n:Int):Nat:=by
 classical exact((P.map (·.n)).filter (fun m=>decide (S? (Holds P) n m))).length
theorem filter_le{p q:Int->Bool}(h: ∀x,p x=true->q x=true): ∀l:List Int,(l.filter p).length<=(l.filter q).length
 |[]=>z?
 |b::l=>by have ih:=filter_le h l;cases hp:p b;cases hq:q b;simpa[hp,hq]using ih;simp[hp,hq];omega;have hq:=h b hp;simpa[hp,hq]using ih
theorem filter_lt{p q:Int->Bool}: ∀(l:List Int),(∀ x,p x=true->q x=true)->(∃ x∈l,q x=true/\p x=false)->(l.filter p).length<(l.filter q).length
 |[],_,h=>by obtain⟨x,hx,_⟩:=h;cases hx
 |a::l,h,⟨x,hx,h1,h2⟩=>by have hl:=filter_le h l;rcases U?.1 hx with rfl|hx;simp[h1,h2];omega;have ih:=filter_lt l h ⟨x,hx,h1,h2⟩;cases hp:p a;cases hq:q a;simpa[hp,hq]using ih;simp[hp,hq];omega;have hq:=h a hp;simpa[hp,hq]using ih
theorem mu_lt{P:List Pt}(hN:UC P){n m:Int}(h:Holds P n m):mu P m<mu P n:=by classical unfold mu;refine filter_lt _ (fun x hx=>?_) ⟨m, ?_, ?_, ?_⟩;simp only[decide_eq_true_eq]at hx |-;exact S?.trans (.single h) hx;obtain⟨d,e,x,y,_,_,_,_,_,_,h7,_,h9⟩:=h;exact tW;simpa using S?.single h;simpa using hN m
end Go.Proofs.YtnfdnckadgcifaaGreat
