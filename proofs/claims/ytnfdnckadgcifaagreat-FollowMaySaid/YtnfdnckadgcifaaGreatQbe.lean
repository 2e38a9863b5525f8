/-
  The document's lines: where they begin and end; bytes counted.
-/
import Derived.Test.YtnfdnckadgcifaaGreatQbd
import Derived.Test.YtnfdnckadgcifaaGreatQbc
open Bool renaming or_eq_true->j!
open Go.IntKind renaming i64->q?
open Go.Proofs.YtnfdnckadgcifaaGreat.qM renaming ite->x_,kH->q0r
open Int renaming toNat_natCast->X?
open List renaming length_cons->b?,length_append->s?,map_cons->d?,length_nil->f?,getElem?_cons_zero->a?,replicate->e?,getElem?_map->K?,getElem?_take_of_lt->V?,mem_of_mem_take->Y?,mem_cons->U?,nil_append->L?,pairwise_cons->w!,sum_cons->u!,pairwise_iff_getElem->b!,mem_or_eq_of_mem_set->n!,drop_eq_getElem_cons->Z!,countP_cons->C!,filter_cons->F!,length_map->j_,drop_of_length_le->e_,length_take->A_,mem_filter->Z',drop_zero->V',pairwise_map->q0j
open Nat renaming strongRecOn->r?,zero_add->O?,add_sub_cancel->w_,mul_le_mul->H_
open Option renaming map_some->D!
set_option linter.unusedSimpArgs false
set_option linter.unusedVariables false
set_option maxHeartbeats 1000000
namespace Go.Proofs.YtnfdnckadgcifaaGreat
open Go Go.Gm
theorem Vo(c:UInt8):qM (fC c) (fun _=>True):=by unfold fC;refine .tI ?_ ?_<;>intro hT;exact .ret trivial;exact .ret trivial
theorem W1(c:UInt8):qM (sU c) (fun _=>True):=by unfold sU;refine .tI ?_ ?_<;>intro hT;exact .ret trivial;exact .ret trivial
theorem SC(c:UInt8): ∃v,fB c=some v:=by
 unfold fB dA;repeat' split
 all_goals first|exact⟨_,rfl⟩|(simp only[zP,qV];split<;>exact⟨_,rfl⟩)
theorem E1: ∀(m:Nat)(i:Int)(b:List UInt8),m=(b.length-i).toNat->0<=i->b.length<=1099511627776->qM (md (i,b)) (fun r=>r.length=b.length):=by intro m;induction m using r? with|_ m ih=>intro i b hm h0 hB;rw[md.eq_1];refine .tI ?_ ?_<;>intro hT;{refine .bind .get fun c hc=>?_;refine .bind (Vo c) fun v _=>?_;(repeat (first|(rw [qB];rotate_left;omega;omega)|(rw [xU];rotate_left;omega;omega)));exact(ih _ v? (i+1) _ rfl o? (by simpa using hB)).mono fun r hr=>by simpa using hr};exact .ret rfl
theorem E2: ∀(m:Nat)(i:Int)(b:List UInt8),m=(b.length-i).toNat->0<=i->b.length<=1099511627776->qM (me (i,b)) (fun r=>r.length=b.length):=by intro m;induction m using r? with|_ m ih=>intro i b hm h0 hB;rw[me.eq_1];refine .tI ?_ ?_<;>intro hT;{refine .bind .get fun c hc=>?_;refine .bind (W1 c) fun v _=>?_;(repeat (first|(rw [qB];rotate_left;omega;omega)|(rw [xU];rotate_left;omega;omega)));exact(ih _ v? (i+1) _ rfl o? (by simpa using hB)).mono fun r hr=>by simpa using hr};exact .ret rfl
def aA(s:qa):Nat:=s.length
theorem Ho: ∀(l:List qa),(∀ w∈l,1<=w.length)->l.length<=qR (l.map aA)
 |[],_=>z?
 |a::l,h=>by have h1:=h a z?;have h2:=Ho l fun w hw=>h w (by simp[hw]);simp only[d?,qR,b?,aA]at*;omega
theorem words_L0(s:qa)(hs:s.length<=1048576): ∀(r:qa)(k:Nat)(l:List qa),s.drop k=r->k<=s.length->(∀ w∈l,1<=w.length)->qR (l.map aA)<=k->(0<k-> ∀b,s[k-1]? =some b->fB b=some true->0<l.length)->
  qM (jK (s,(k:Int),l)) (fun r=>(∀ w∈r,1<=w.length)/\qR (r.map aA)<=s.length):=by
 intro r;induction r with
  |nil=>intro k l hk N6 h1 h2 h3;rw[jK.eq_1,if_neg (by simpa using yx hk)];exact .ret ⟨h1,o?⟩
  |cons b r ih=>
   intro k l hk N6 h1 h2 h3;obtain⟨a1,a2,a3,a4⟩:=vn hk;obtain⟨b1,b2,b3⟩:=drop_cons hk;have hl:=Ho l h1;have e1:q?.wrap ((k:Int)+1)=((k+1:Nat):Int):=l9 o? a1;have put: ∀(l:List qa),0<l.length->l.length<=k+1->(∀ i w,l[i]? =some w->i+1<l.length->1<=w.length)->qR (l.map aA)<=k-> ∀{f:qa->qa->Option (List qa)},(∀ x y,f x y=if x.length+y.length<=2^62 then jK (s,q?.wrap ((k:Int)+1),l.set ((q?.wrap ((l.length:Int)-1)).toNat) (x++y))else none)->
     qM (qh l (q?.wrap ((l.length:Int)-1))>>=fun x=>kH s (k:Int) (q?.wrap ((k:Int)+1))>>=fun y=>f x y) (fun r=>(∀ w∈r,1<=w.length)/\qR (r.map aA)<=s.length):=by
    intro l hl0 hlk h4 h5 f hf;have e2:q?.wrap ((l.length:Int)-1)=((l.length-1:Nat):Int):=by rw[wr o? o?];omega
    rw[e2,e1];refine .bind .get fun x hx=>?_;have hxl:x.length<=qR (l.map aA):=j9 (f:=aA) hx.2;refine .bind .kH fun y hy=>?_;rw[hf];refine .zE o? ?_;have L7:y.length=1:=o?;have Fm:l[l.length-1]? =some x:=by simpa using hx.1
    have hsum:=lV aA l (l.length-1) (x++y) x Fm;rw[e2,X?,e1];have hlen:aA (x++y)=aA x+1:=by simp[aA,L7]
    refine ih (k+1) _ a3 o? ?_ o? (fun _ _ _ _=>by simpa using hl0);intro w hw;obtain⟨i,hi⟩:=jI hw;rw[List.getElem?_set]at hi;split at hi
    ·split at hi
     ·cases hi;simp[L7]
     cases hi
    rename_i jZ;have:=(qL hi).1;exact h4 i w hi o?
   (obtain⟨v,hv⟩:=SC b;rw[jK.eq_1,if_pos (by simpa using a1)];refine .go a2 ?_;refine .go hv ?_;have hnew: ∀i w,(l++[([]:qa)])[i]? =some w->i+1<(l++[([]:qa)]).length->1<=w.length:=by intro i w hi xS;simp only[s?,b?,f?]at xS;rw[List.getElem?_append_left o?]at hi;exact h1 w (zc hi));(have Fc:qR ((l++[([]:qa)]).map aA)<=k:=by rw[kx];simp only[aA,f?];omega);(have bk:qi (l.length+1) 16=true:=by simp only[qi,zU,decide_eq_true_eq];omega);refine .tI ?_ ?_<;>intro hT;rw[e1];refine ih (k+1) l a3 o? h1 o? (fun _ c hc Vq=>?_);simp only[w_]at hc;rw[b1]at hc;cases hc;rw[hv]at Vq;cases Vq;exact absurd hT z?;refine .tI ?_ ?_<;>intro hT;exact .zE bk (put _ z? v? hnew Fc fun _ _=>rfl);(have hk0:0<k:=o?;have e3:q?.wrap ((k:Int)-1)=((k-1:Nat):Int):=by rw[wr o? o?];omega);rw[e3];refine .bind .get fun c hc=>?_;obtain⟨w,hw⟩:=SC c;refine .go hw ?_;refine .tI ?_ ?_<;>intro hT;exact .zE bk (put _ z? v? hnew Fc fun _ _=>rfl);refine put l (h3 hk0 c (by simpa using hc.1) ?_) o? (fun i w hi _=>h1 w (zc hi)) h2 fun _ _=>rfl;rw[hw,hT]
theorem E6(s:qa)(hs:s.length<=1048576):qM (cM s) (fun r=>(∀ w∈r.l,1<=w.length)/\qR (r.l.map aA)<=s.length):=by unfold cM;exact .bind (words_L0 s hs s 0 [] rfl o? z? (by simp[qR]) (fun h=>o?)) fun v hv=> .ret hv
theorem E3(wP:Int)(ws:Sl qa)(r0:List UInt8)(hw: ∀w∈ws.l,1<=w.length)(hs:qR (ws.l.map aA)<=1048576): ∀(r:List qa)(k:Nat)(out:qa),ws.l.drop k=r->out.length+qR (r.map aA)<=qR (ws.l.map aA)->
  qM (yR (wP,ws,out,(k:Int),r0)) (fun t=>t.length<=qR (ws.l.map aA)):=by have hl:=Ho ws.l hw;intro r;induction r with|nil=>intro k out hk ho;rw[yR.eq_1,if_neg (by simpa using yx hk)];simp only[List.map_nil,qR]at ho;exact .ret o?|cons x r ih=>intro k out hk ho;obtain⟨a1,a2,a3,a4⟩:=vn hk;simp only[d?,qR,aA]at ho;have hx:=hw x a4;rw[yR.eq_1,if_pos (by simpa using a1),l9 o? a1];refine .go a2 ?_;refine .tI ?_ ?_<;>intro hT;refine .bind .get fun c _=>?_;refine .bind (W1 c) fun v _=>?_;refine .zE v? ?_;exact ih (k+1) _ a3 (by simp[aA];omega);refine .bind .get fun c _=>?_;refine .bind (Vo c) fun v _=>?_;refine .zE v? ?_;exact ih (k+1) _ a3 (by simp[aA];omega)
theorem Vn(s:qa)(hs:s.length<=1048576)(wP:Int):qM (sT s wP) (fun r=>r.1.length<=s.length):=by unfold sT;refine .tI ?_ ?_<;>intro hT;exact .bind (E1 _ 0 s rfl o? o?) fun v hv=> .ret u?;refine .tI ?_ ?_<;>intro hT;exact .bind (E2 _ 0 s rfl o? o?) fun v hv=> .ret u?;refine .tI ?_ ?_<;>intro hT;refine .tI ?_ ?_<;>intro hT;refine .bind .get fun c _=>?_;refine .bind (Vo c) fun v _=>?_;exact .ret z?;exact .ret z?;refine .tI ?_ ?_<;>intro hT;refine .bind (E6 s hs) fun w hw=>?_;refine .bind (E3 wP w s hw.1 o? w.l 0 [] rfl z?) fun v hv=>?_;exact .ret u?;exact .ret z?
theorem Br(fs:Sl zw)(hf:qR (fs.l.map oh)<=1000000000)(parts:Sl qa)(hp: ∀p∈parts.l,p.length<=1048576):qM (cN fs parts) (fun r=>r.length<=1048576*qR (fs.l.map oh)):=by
 have hl:=xI Kg fs.l;unfold cN;refine .bind (YS fs o?) fun v hv=>?_;refine .tI ?_ ?_<;>intro hT;exact .ret z?;have hn:=hv hT;have key: ∀(r:List zw)(k:Nat)(s:qa),fs.l.drop k=r->s.length+1048576*qR (r.map oh)<=1048576*qR (fs.l.map oh)->qM (zz (fs,parts,s,(k:Int))) (fun r=>r.length<=1048576*qR (fs.l.map oh)):=by intro r;induction r with|nil=>intro k s hk hs;rw[zz.eq_1,if_neg (by simpa using yx hk)];exact .ret o?|cons f r ih=>(intro k s hk hs;obtain⟨a1,a2,a3,a4⟩:=vn hk;simp only[d?,qR]at hs;have hfw:oh f=1+f.l8.length+f.Qr.length:=rfl;have hfn:=hn f a4;have next: ∀t:qa,t.length<=1048576*oh f->qM (if s.length+t.length<=2^62 then zz (fs,parts,(s++t),((k+1:Nat):Int))else none) (fun r=>r.length<=1048576*qR (fs.l.map oh)):=by intro t ht;refine .zE o? (ih (k+1) _ a3 ?_);simp only[s?];omega);(have h1:=next f.l8 o?);(have h2:=next f.Qr o?);(have h3:=next [] z?);rw[zz.eq_1,if_pos (by simpa using a1),l9 o? a1];refine .go a2 ?_;refine .ite (fun hc=>?_) fun hc=>?_;{(simp only[decide_eq_true_eq]at hc;refine .bind (qM.get hfn hc) fun p hpp=>?_;have dg:=hp p hpp.2;have h4:=next p o?);repeat' (first|exact h1|exact h2|exact h4|(refine .bind (Vn p dg _) fun v hv=>?_;exact next v.1 (by omega))|refine .ite (fun _=>?_) (fun _=>?_))};repeat' (first|exact h1|exact h2|exact h3|(refine .bind (Vn [] (by simp) _) fun v hv=>?_;exact next v.1 (by simp only[f?]at hv;omega))|refine .ite (fun _=>?_) (fun _=>?_))
 exact .bind (key fs.l 0 [] rfl z?) fun v hv=> .ret hv
theorem U9(f:zo)(hf:yP f<=1000000000)(s:qa)(hs:s.length<=1048576)(g:Nat)(hg:g<=1000000000)(m:ql)(h0:0<=m.span.qO)(h1:m.span.qO<=m.span.to)(h2:m.span.to<=s.length)(hp:mW s g m.parts):
  qM (dK f s m) (fun r=>r.length<=1048576*1000000000):=by
 have dg:=hp.len;have hfw:yP f=sc f.rx+qR (f.uT.l.map oh)+Uv f.uT:=rfl;have key: ∀(r:List qk)(k:Nat)(ps:List qa),m.parts.l.drop k=r->ps.length=k+1->(∀ p∈ps,p.length<=1048576)->qM (gu (s,(k:Int),f,m,ps)) (fun r=> ∀p∈r,p.length<=1048576):=by intro r;induction r with|nil=>intro k ps hk hl Fi;rw[gu.eq_1,if_neg (by simpa using yx hk)];exact .ret Fi|cons x r ih=>(intro k ps hk hl Fi;obtain⟨a1,a2,a3,a4⟩:=vn hk;have hx:=hp.ok x a4;have more: ∀p:qa,p.length<=1048576-> ∀q∈ps++[p],q.length<=1048576:=by intro p hp q hq;rcases List.mem_append.1 hq with hq|hq;exact Fi q hq;simp only[List.mem_singleton]at hq;subst hq;exact hp);(have bk:qi (ps.length+1) 16=true:=by simp only[qi,zU,decide_eq_true_eq];omega);rw[gu.eq_1,if_pos (by simpa using a1),l9 o? a1];refine .go a2 ?_;refine .tI ?_ ?_<;>intro hT;rcases hx with hx|hx;omega;refine .bind (q0r hx.1 hx.2.1 hx.2.2) fun y hy=>?_;exact .zE bk (ih (k+1) _ a3 v? (more y o?));exact .zE bk (ih (k+1) _ a3 v? (more [] z?))
 unfold dK;refine .bind (q0r h0 h1 h2) fun y hy=>?_;refine .bind (key m.parts.l 0 [y] rfl rfl v?) fun v hv=>?_;refine .bind (Br f.uT o? ⟨false,v⟩ hv) fun w hw=>?_;refine .ret ?_;have:qR (f.uT.l.map oh)<=1000000000:=o?;have:=Nat.mul_le_mul_left 1048576 this;omega
theorem PA(f:zo)(hf:yP f<=1000000000)(s:qa)(hs:s.length<=1048576)(g:Nat)(hg:g<=1000000000)(ms:Sl ql)(Wi:ms.l.length<=1099511627776)(left:Int): ∀(r:List ql)(k:Nat)(a:Int)(out:qa),ms.l.drop k=r->Ms s g a r->out.length<=65536->
  qM (uw (s,ms,left,out,a,(k:Int),f)) (fun v=>match v with| .inl y=>y.2.2.1≠0/\y.1=[]| .inr y=>y.1.length<=65536/\0<=y.2/\y.2<=s.length):=by intro r;induction r with|nil=>intro k a out hk hm ho;rw[uw.eq_1,if_neg (by simpa using yx hk)];exact .ret ⟨ho,hm⟩|cons x r ih=>intro k a out hk hm ho;obtain⟨a1,a2,a3,a4⟩:=vn hk;obtain⟨m1,m2,m3,m4,m5⟩:=hm;have m6:=m5.lo;rw[uw.eq_1,if_pos (by simpa using a1),l9 o? a1];refine .go a2 ?_;have:= @U9;exact tW
theorem Bs(f:zo)(hf:yP f<=1000000000)(s:qa)(hs:s.length<=1048576)(g:Nat)(hg:g<=1000000000)(ms:List ql)(Wi:ms.length<=1099511627776)(left:Int)(b1:ql)(r2:List ql): ∀(r:List ql)(k:Nat)(a:Int)(out:qa),ms.drop k=r->Ms s g a r->out.length<=65536->
  qM (wS (s,left,out,a,(k:Int),f,b1,r2,ms)) (fun v=>match v with| .inl y=>y.2.2.1≠0/\y.1=[]| .inr y=>y.1.length<=65536/\0<=y.2/\y.2<=s.length):=by intro r;induction r with|nil=>intro k a out hk hm ho;rw[wS.eq_1,if_neg (by simpa using yx hk)];exact .ret ⟨ho,hm⟩|cons x r ih=>intro k a out hk hm ho;obtain⟨a1,a2,a3,a4⟩:=vn hk;obtain⟨m1,m2,m3,m4,m5⟩:=hm;have m6:=m5.lo;rw[wS.eq_1,if_pos (by simpa using a1),l9 o? a1];refine .go a2 ?_;have:= @U9;exact tW
theorem aF(f:zo)(hf:yP f<=1000000000)(s:qa)(hs:s.length<=1048576)(fuel:Int):qM (gr f s fuel) (fun r=>r.1.length<=65536\/r.1=s):=by have hfw:yP f=sc f.rx+qR (f.uT.l.map oh)+Uv f.uT:=rfl;have hgl:=Rr f.rx;unfold gr;refine .bind (YT f o?) fun v hv=>?_;refine .tI ?_ ?_<;>intro hT;exact .ret (.inl z?);refine .tI ?_ ?_<;>intro hT;{refine .bind (D6 f.rx o? f.fold s hs fuel) fun w hw=>?_;refine .tI ?_ ?_<;>intro hT;exact .ret (.inl z?);have hM:=hw hT;refine .tI ?_ ?_<;>intro hT;exact .ret (.inr rfl);refine .bind (PA f hf s hs (d7 f.rx) o? w.1 (by have:=hM.2;omega) w.2.1 w.1.l 0 0 [] rfl hM.1 z?) fun y hy=>?_;rcases y with y|y;exact .ret (.inl (by simp only[hy.2,f?];omega));simp only;(try simp(disch:=omega) only[qB,xU]);refine .tI ?_ ?_<;>intro hT;exact .ret (.inl z?);refine .bind (qM.mj hy.2.1 hy.2.2) fun z hz=>?_;refine .zE o? ?_;exact .ret (.inl (by simp only[s?];omega))};refine .bind (Pf f.rx o? f.fold s hs 0 fuel) fun w hw=>?_;refine .tI ?_ ?_<;>intro hT;{have hM:=hw hT;refine .zE (by simp[qi]) ?_;refine .tI ?_ ?_<;>intro hT;exact .ret (.inl z?);(first|refine .ite (fun h=>absurd h (by simp)) fun _=>?_|skip);refine .bind (Bs f hf s hs (d7 f.rx) o? [w.1] z? w.2.1 w.1 [w.1] [w.1] 0 0 [] rfl hM z?) fun y hy=>?_;rcases y with y|y;exact .ret (.inl (by simp only[hy.2,f?];omega));simp only;(try simp(disch:=omega) only[qB,xU]);refine .tI ?_ ?_<;>intro hT;exact .ret (.inl z?);refine .bind (qM.mj hy.2.1 hy.2.2) fun z hz=>?_;refine .zE o? ?_;exact .ret (.inl (by simp only[s?];omega))};refine .tI ?_ ?_<;>intro hT;exact .ret (.inl z?);first|exact .ite (fun _=> .ret (.inr rfl)) fun h=>absurd (by decide) h|exact .ret (.inr rfl)
namespace Xr
def pL(x:qt):Prop:=yP x.qU<=1000000000/\(∀ o∈x.opts.l,o.length<=17592186044416)/\Uv x.opts=0/\x.opts.l.length<=8192002
theorem lU:Cored pL:=by intro x y h hy;simp only[core,Prod.mk.injEq]at h;unfold pL at*;rw[h.2.2.2.1,h.2.2.2.2];exact hy
abbrev World:=qa×Sl qm×List qc×Sl (Sl (Sl Int))
structure WK (w:World):Prop where
 ok:S3 pL w.1 w.2.1 w.2.2.1 w.2.2.2
 text:w.1.length<=65536
structure Xp (i:Nat) (w v:World):Prop where
 len:v.2.2.1.length=w.2.2.1.length
 cur: ∀(j:Nat) s,w.2.2.1[j]? =some s-> ∃s',v.2.2.1[j]? =some s' /\s'.cur=s.cur
 insts: ∀s,w.2.2.1[i]? =some s-> ∃s',v.2.2.1[i]? =some s' /\s'.insts.l.length=s.insts.l.length
theorem Xp.refl(i:Nat)(w:World):Xp i w w:=⟨rfl,fun j s h=>⟨s,h,rfl⟩,fun s h=>⟨s,h,rfl⟩⟩
theorem Xp.trans{i:Nat}{w v u:World}(h1:Xp i w v)(h2:Xp i v u):Xp i w u:=by refine⟨h2.len.trans h1.len,fun j s h=>?_,fun s h=>?_⟩;obtain⟨s',a,b⟩:=h1.cur j s h;obtain⟨s'',c,d⟩:=h2.cur j s' a;exact⟨s'',c,d.trans b⟩;obtain⟨s',a,b⟩:=h1.insts s h;obtain⟨s'',c,d⟩:=h2.insts s' a;exact⟨s'',c,d.trans b⟩
theorem ZJ{w:World}(h:S3 pL w.1 w.2.1 w.2.2.1 w.2.2.2){i a k:Nat}{s:qc}{x:qu}(hs:w.2.2.1[i]? =some s)(hx:s.insts.l[a]? =some x)(hk:k<x.stops.l.length):
  w.2.2.2.nil=false/\ ∃f,w.2.2.2.l[i]? =some f/\f.nil=false/\ ∃g,f.l[a]? =some g/\g.nil=false/\g.l.length=x.stops.l.length/\ ∃v,g.l[k]? =some v/\0<=v/\v<=3:=by have hi:=(qL hs).1;have ha:=(qL hx).1;refine⟨h.fnn fun c=>?_, ?_⟩;rw[c]at hi;simp at hi;obtain⟨f,hf⟩:=gl (l:=w.2.2.2.l) (k:=i) (by rw[h.W9];exact hi);have hF:=h.each i s f hs hf;obtain⟨g,hg⟩:=gl (l:=f.l) (k:=a) (by rw[hF.len];exact ha);obtain⟨q1,q2,q3⟩:=hF.each a x g hx hg;obtain⟨v,hv⟩:=gl (l:=g.l) (k:=k) o?;refine⟨f,hf,hF.nn fun c=>?_,g,hg,q2 fun c=>?_,q1,v,hv,q3 v (zc hv)⟩;rw[c]at ha;simp at ha;rw[c]at hk;simp at hk
theorem Yw{w:World}(h:S3 pL w.1 w.2.1 w.2.2.1 w.2.2.2){i a k:Nat}{f:Sl (Sl Int)}{g:Sl Int}(hf:w.2.2.2.l[i]? =some f)(hg:f.l[a]? =some g)(v:Int)(hv:0<=v/\v<=3):
  S3 pL w.1 w.2.1 w.2.2.1 ⟨false,w.2.2.2.l.set i ⟨false,f.l.set a ⟨false,g.l.set k v⟩⟩⟩:=by have eo:=(qL hf).1;have YD:=(qL hg).1;refine⟨h.blen,h.ne,h.qn,h.K6,h.Yn,h.Jr,h.sm,h.small,h.may,by simp[h.W9],fun _=>rfl, ?_,h.stop⟩;intro j s f' hs Hf;simp only[xM]at Hf;by_cases c:i=j;subst c;rw[if_pos ⟨rfl,eo⟩]at Hf;cases Hf;have hF:=h.each i s f hs hf;refine⟨by simp[hF.len],fun _=>rfl, ?_⟩;intro b x g' hx hg';simp only[xM]at hg';by_cases d:a=b;subst d;rw[if_pos ⟨rfl,YD⟩]at hg';cases hg';obtain⟨q1,q2,q3⟩:=hF.each a x g hx hg;refine⟨by simp[q1],fun _=>rfl,fun u hu=>?_⟩;rcases n! hu with hu|rfl;exact q3 u hu;exact hv;rw[if_neg o?]at hg';exact hF.each b x g' hx hg';rw[if_neg o?]at Hf;exact h.each j s f' hs Hf
theorem nilF{α:Type}{s:Sl α}(h:s.nil=false):(⟨false,s.l⟩:Sl α)=s:=by rw[<- h]
theorem num_L0(i a:Nat)(n:Int)(w:World)(h:S3 pL w.1 w.2.1 w.2.2.1 w.2.2.2)(s:qc)(x:qu)(hs:w.2.2.1[i]? =some s)(hx:s.insts.l[a]? =some x)(hL:x.stops.l.length<=2^12):
  ∀(d k:Nat)(held:List Bool),k+d=x.stops.l.length->held.length=x.stops.l.length-> ∃held',jA ((i:Int),(a:Int),n,(k:Int),w.1,w.2.1,w.2.2.1,w.2.2.2,x,held)=some (w.2.2.2,held')/\held'.length=x.stops.l.length:=by intro d;induction d with|zero=>intro k held hk hh;rw[jA.eq_1,if_neg v?];exact⟨held,rfl,hh⟩|succ d ih=>intro k held hk hh;obtain⟨z,f,hf,fz,g,hg,gz,gl',v,hv,_⟩:=ZJ h hs hx (show k<x.stops.l.length by omega);obtain⟨hb,hhb⟩:=gl (l:=held) (k:=k) o?;rw[jA.eq_1,if_pos v?,z,if_neg z?,gi hf,ws o?];simp only[zP,qV];rw[fz,if_neg z?,gi hg];simp only[qV];rw[gz,if_neg z?,gi hv];simp only[qV];rw[gi hhb];simp only[qV,X?];rw[nilF z];exact ih (k+1) _ o? (by simp[hh])
theorem tm2(v:Int)(h:0<=v/\v<=3):0<=v.tmod 2/\v.tmod 2<=1:=by rcases(show v=0\/v=1\/v=2\/v=3 by omega)with rfl|rfl|rfl|rfl<;>decide
theorem num_L2(i a:Nat)(n src:Int)(w:World)(s:qc)(x:qu)(hs:w.2.2.1[i]? =some s)(hx:s.insts.l[a]? =some x)(hL:x.stops.l.length<=2^12):
  ∀(d k:Nat)(fl:Sl (Sl (Sl Int))),k+d=x.stops.l.length->S3 pL w.1 w.2.1 w.2.2.1 fl->(∀ f g,fl.l[i]? =some f->f.l[a]? =some g-> ∀j,j<k-> ∀v,g.l[j]? =some v->v<=1)->
  ∃H3,jB ((i:Int),(a:Int),n,src,(k:Int),w.1,w.2.1,w.2.2.1,fl,x)=some H3/\S3 pL w.1 w.2.1 w.2.2.1 H3/\(∀ f g,H3.l[i]? =some f->f.l[a]? =some g-> ∀j,j<x.stops.l.length-> ∀v,g.l[j]? =some v->v<=1):=by intro d;induction d with|zero=>intro k fl hk h H;rw[jB.eq_1,if_neg v?];exact⟨fl,rfl,h,fun f g hf hg j hj v hv=>H f g hf hg j o? v hv⟩|succ d ih=>intro k fl hk h H;obtain⟨z,f,hf,fz,g,hg,gz,gl',v,hv,hv3⟩:=ZJ (w:=(w.1,w.2.1,w.2.2.1,fl)) h hs hx (show k<x.stops.l.length by omega);simp only at z hf;rw[jB.eq_1,if_pos v?,z,if_neg z?,gi hf,ws o?];simp only[zP,qV];rw[fz,if_neg z?,gi hg];simp only[qV];rw[gz,if_neg z?,gi hv];simp only[qV,X?];have h2:=tm2 v hv3;have pf:=Yw (w:=(w.1,w.2.1,w.2.2.1,fl)) (k:=k) h hf hg (v.tmod 2) o?;refine ih (k+1) _ o? pf fun f' g' Hf hg' j hj u hu=>?_;have eo:=(qL hf).1;have YD:=(qL hg).1;rw[xM,if_pos ⟨rfl,eo⟩]at Hf;cases Hf;simp only at hg';rw[xM,if_pos ⟨rfl,YD⟩]at hg';cases hg';simp only at hu;rw[xM]at hu;by_cases c:k=j;subst c;have pd:=(qL hv).1;rw[if_pos ⟨rfl,pd⟩]at hu;cases hu;exact h2.2;rw[if_neg o?]at hu;exact H f g hf hg j o? u hu
def JI(i:Nat)(w:World)(v:(Int×World)⊕World):Prop:=match v with
 | .inl u=>u.1≠0
 | .inr u=>WK u/\Xp i w u
theorem Fv{i a j:Nat}{w:World}(hw:WK w){s:qc}{y:qu}{x:qt}(hs:w.2.2.1[i]? =some s)(hy:s.insts.l[a]? =some y)(hx:y.stops.l[j]? =some x)(t:qa)(ht:t.length<=65536):
  ∃v:World,jW (i:Int) (a:Int) (j:Int) (qz.mk x.span t) false w.1 w.2.1 w.2.2.1 w.2.2.2=some v/\S3 pL v.1 v.2.1 v.2.2.1 v.2.2.2/\Xp i w v:=by have hm:=hw.ok.may s (zc hs);have h1:=(hm.may a y hy).inside j x hx;have h2:=(hm.may a y hy).le j x hx;have h3:=(hm.may a y hy).Xk;have K0:=hw.text;have he:bU (qz.mk x.span t) w.1.length:=⟨u?,u?,u?,u?,o?⟩;obtain⟨v,g1,g2⟩:=Td lU hw.ok he u? (i:Int) (a:Int) (j:Int) false (.inr ⟨i,s,rfl,hs,o?,.inr ⟨a,j,y,x,rfl,rfl,hy,hx,JG _⟩⟩);exact⟨v,g1,g2.ok,⟨g2.len,g2.cur,fun s' oM=>g2.top i s' rfl o? oM⟩⟩
theorem U3(i a j:Nat)(n:Int)(t:qa)(ht:t.length<=65536)(b3:qu)(w:World)(hw:WK w)(hi:i<w.2.2.1.length)
  (next: ∀w' :World,WK w' ->Xp i w w' ->j<2^12->qM (zv ((i:Int),(a:Int),n,t,((j+1:Nat):Int),w'.1,w'.2.1,w'.2.2.1,w'.2.2.2,b3)) (JI i w)):
  qM (zv ((i:Int),(a:Int),n,t,(j:Int),w.1,w.2.1,w.2.2.1,w.2.2.2,b3)) (JI i w):=by
 obtain⟨s,hs⟩:=gl hi;have Qu:=hw.ok.small s (zc hs);rw[zv.eq_1];refine .go (gi hs) ?_;by_cases ha:a<s.insts.l.length
 ·obtain⟨y,hy⟩:=gl ha;have L7:=Qu.2 y (zc hy);rw[if_pos (by simpa using ha)];refine .go (gi hy) ?_;by_cases hj:j<y.stops.l.length
  ·obtain⟨x,hx⟩:=gl hj;obtain⟨z,f,hf,fz,g,hg,gz,gl',v,hv,hv3⟩:=ZJ hw.ok hs hy hj;rw[if_pos (by simpa using hj)];refine .go (gi hx) ?_;rw[z,if_neg z?];refine .go (gi hf) ?_;rw[fz,if_neg z?];refine .go (gi hg) ?_;rw[gz,if_neg z?,nilF z,ws (k:=j) o?];have kR:=next w hw (.refl i w) o?
   have hm:=hw.ok.may s (zc hs);have h1:=(hm.may a y hy).inside j x hx;have h2:=(hm.may a y hy).le j x hx;have h3:=(hm.may a y hy).Xk;have Wo:=hw.ok.stop s (zc hs) y (zc hy) x (zc hx);have hcut:qM (kH w.1 x.span.qO x.span.to) (fun _=>True):=(q0r).mono fun _ _=>trivial;have MV: ∀(u:qa),u.length<=65536->qM (jW (i:Int) (a:Int) (j:Int) (qz.mk x.span u) false w.1 w.2.1 w.2.2.1 w.2.2.2>>=fun v=>
     if(decide ((v.1.length:Int)>(65536:Int)))=true then some (.inl ((4:Int),v.1,v.2.1,v.2.2.1,v.2.2.2))
     else zv ((i:Int),(a:Int),n,t,((j+1:Nat):Int),v.1,v.2.1,v.2.2.1,v.2.2.2,b3)) (JI i w):=by
    intro u hu;obtain⟨v,k1,k2,k3⟩:=Fv hw hs hy hx u hu;refine .go k1 ?_;by_cases c:(v.1.length:Int)>65536
    ·rw[if_pos (by simpa using c)];exact .ret (show (4:Int)≠0 by decide)
    rw[if_neg (by simpa using c)];exact next v ⟨k2,o?⟩ k3 o?
   refine .ite (fun _=>kR) fun _=>?_;refine .go (gi hv) ?_;refine .ite (fun _=>kR) fun _=>?_;refine .ite (fun _=>?_) fun _=>?_;refine .bind (aF x.qU Wo.1 t o? 20000) fun r hr=>?_;refine .ite (fun c=>?_) fun _=>?_;exact .ret (show r.2.2≠0 by simpa using c);refine .bind hcut fun q _=>?_;refine .ite (fun _=>kR) fun _=>?_;refine MV r.1 ?_;rcases hr with hr|hr;exact hr;rw[hr];exact ht;refine .bind hcut fun q _=>?_;exact .ite (fun _=>kR) fun _=>MV t ht
  rw[if_neg (by simpa using hj)];exact .ret ⟨hw,.refl i w⟩
 rw[if_neg (by simpa using ha)];exact .ret ⟨hw,.refl i w⟩
theorem JI.trans{i:Nat}{w w' :World}(h:Xp i w w')(v:(Int×World)⊕World)(hv:JI i w' v):JI i w v:=by rcases v with v|v;exact hv;exact⟨hv.1,h.trans hv.2⟩
theorem num_L4(i a:Nat)(n:Int)(t:qa)(ht:t.length<=65536)(b3:qu): ∀(m j:Nat)(w:World),j+m=2^12->WK w->i<w.2.2.1.length->
  qM (zv ((i:Int),(a:Int),n,t,(j:Int),w.1,w.2.1,w.2.2.1,w.2.2.2,b3)) (JI i w):=by intro m;induction m with|zero=>intro j w hj hw hi;exact U3 i a j n t ht b3 w hw hi fun w' _ _ h=>o?|succ m ih=>intro j w hj hw hi;refine U3 i a j n t ht b3 w hw hi fun w' hw' hs _=>?_;exact(ih (j+1) w' o? hw' (by rw[hs.len];exact hi)).mono fun v hv=>JI.trans hs v hv
def NumR(i:Nat)(w:World)(v:Int×World):Prop:=v.1≠0\/v.1=0/\WK v.2/\Xp i w v.2
theorem fh(i a:Nat)(n:Int)(w:World)(hw:WK w)(s:qc)(hs:w.2.2.1[i]? =some s)(ha:a<s.insts.l.length):
  qM (uJ (i:Int) (a:Int) n w.1 w.2.1 w.2.2.1 w.2.2.2) (NumR i w):=by obtain⟨y,hy⟩:=gl ha;have Qu:=hw.ok.small s (zc hs);have L7:=Qu.2 y (zc hy);have hi:=(qL hs).1;have K0:=hw.text;unfold uJ;refine .go (gi hs) ?_;refine .go (gi hy) ?_;refine .zE o? ?_;refine .zE (qH v? o?) ?_;obtain⟨held,g1,g2⟩:=num_L0 i a n w hw.ok s y hs hy L7 y.stops.l.length 0 (e? y.stops.l.length false) o? z?;rw[X?];refine .go g1 ?_;refine .bind (Rw y n ⟨false,held⟩ o?) fun src rJ=>?_;rcases rJ with rJ|⟨k,x,rfl,hx⟩;rw[if_pos (by simpa using rJ)];exact .ret (.inr ⟨rfl,hw,.refl i w⟩);rw[if_neg z?];have hk:=(qL hx).1;obtain⟨H3,q1,q2,q3⟩:=num_L2 i a n (k:Int) w s y hs hy L7 y.stops.l.length 0 w.2.2.2 o? hw.ok (fun f g _ _ j hj=>o?);refine .go q1 ?_;obtain⟨z,f,hf,fz,g,hg,gz,gl',v,hv,hv3⟩:=ZJ (w:=(w.1,w.2.1,w.2.2.1,H3)) q2 hs hy hk;simp only at z hf;have ZQ:=q3 f g hf hg k hk v hv;rw[z,if_neg z?];refine .go (gi hf) ?_;rw[fz,if_neg z?];refine .go (gi hg) ?_;rw[gz,if_neg z?];refine .go (gi hv) ?_;refine .go (gi hx) ?_;have hm:=hw.ok.may s (zc hs);have h1:=(hm.may a y hy).inside k x hx;have h2:=(hm.may a y hy).le k x hx;have h3:=(hm.may a y hy).Xk;refine .bind (q0r (l:=w.1) (lo:=x.span.qO) (hi:=x.span.to) o? o? o?) fun t ht=>?_;have pf:=Yw (w:=(w.1,w.2.1,w.2.2.1,H3)) (k:=k) q2 hf hg (v+2) o?;rw[qB (n:=v+2) o? o?,X?,X?,X?];have MT:WK (w.1,w.2.1,w.2.2.1,(⟨false,H3.l.set i ⟨false,f.l.set a ⟨false,g.l.set k (v+2)⟩⟩⟩:Sl (Sl (Sl Int)))):=⟨pf,hw.text⟩;refine .bind (num_L4 i a n t o? y (2^12) 0 _ o? MT hi) fun r hr=>?_;rcases r with r|r;exact .ret (.inl hr);exact .ret (.inr ⟨rfl,hr.1,⟨hr.2.len,hr.2.cur,hr.2.insts⟩⟩)
end Xr
namespace Xr
structure JH (w v:World):Prop where
 len:v.2.2.1.length=w.2.2.1.length
 cur: ∀(j:Nat) s,w.2.2.1[j]? =some s-> ∃s',v.2.2.1[j]? =some s' /\s'.cur=s.cur
theorem JH.refl(w:World):JH w w:=⟨rfl,fun j s h=>⟨s,h,rfl⟩⟩
theorem JH.trans{w v u:World}(h1:JH w v)(h2:JH v u):JH w u:=by refine⟨h2.len.trans h1.len,fun j s h=>?_⟩;obtain⟨s',a,b⟩:=h1.cur j s h;obtain⟨s'',c,d⟩:=h2.cur j s' a;exact⟨s'',c,d.trans b⟩
theorem Xp.K3{i:Nat}{w v:World}(h:Xp i w v):JH w v:=⟨h.len,h.cur⟩
def MirQ(w:World)(v:(Int×World)⊕World):Prop:=match v with
 | .inl u=>u.1≠0
 | .inr u=>WK u/\JH w u
theorem mir_L4(i a:Nat)(ns:Sl Int)(hn:ns.l.length<=2^12): ∀(d k:Nat)(w:World),k+d=ns.l.length->WK w->(∃ s,w.2.2.1[i]? =some s/\a<s.insts.l.length)->
  qM (jz ((i:Int),(a:Int),ns,(k:Int),w.1,w.2.1,w.2.2.1,w.2.2.2)) (JI i w):=by intro d;induction d with|zero=>intro k w h hw _;rw[jz.eq_1,if_neg v?];exact .ret ⟨hw,.refl i w⟩|succ d ih=>intro k w h hw hs;obtain⟨s,hs,ha⟩:=hs;obtain⟨x,hx⟩:=gl (l:=ns.l) (k:=k) o?;rw[jz.eq_1,if_pos v?,ws (k:=k) o?];refine .go (gi hx) ?_;refine .bind (fh i a x w hw s hs ha) fun v hv=>?_;rcases hv with hv|⟨h0,h1,h2⟩;rw[if_pos (by simpa using hv)];exact .ret hv;rw[if_neg (by simpa using h0)];obtain⟨s',k1,k2⟩:=h2.insts s hs;exact(ih (k+1) v.2 o? h1 ⟨s',k1,o?⟩).mono fun u hu=>JI.trans h2 u hu
theorem mir_L2(i:Nat): ∀(d a:Nat)(w:World),WK w->(∃ s,w.2.2.1[i]? =some s/\a+d=s.insts.l.length)->
  qM (jy ((i:Int),(a:Int),w.1,w.2.1,w.2.2.1,w.2.2.2)) (JI i w):=by intro d;induction d with|zero=>intro a w hw hs;obtain⟨s,hs,ha⟩:=hs;rw[jy.eq_1];refine .go (gi hs) ?_;rw[if_neg v?];exact .ret ⟨hw,.refl i w⟩|succ d ih=>intro a w hw hs;obtain⟨s,hs,ha⟩:=hs;have Qu:=hw.ok.small s (zc hs);have mF:=Qu.1;obtain⟨y,hy⟩:=gl (l:=s.insts.l) (k:=a) o?;rw[jy.eq_1];refine .go (gi hs) ?_;rw[if_pos v?];refine .go (gi hy) ?_;refine .bind (FK y (Qu.2 y (zc hy))) fun ns Fc=>?_;refine .bind (mir_L4 i a ns Fc ns.l.length 0 w o? hw ⟨s,hs,o?⟩) fun v hv=>?_;rcases v with v|v;exact .ret hv;obtain⟨h1,h2⟩:=hv;obtain⟨s',k1,k2⟩:=h2.insts s hs;simp only;rw[ws (k:=a) o?];exact(ih (a+1) v h1 ⟨s',k1,o?⟩).mono fun u hu=>JI.trans h2 u hu
theorem mir_L0: ∀(i:Nat)(w:World),i<=w.2.2.1.length->WK w->qM (jx ((i:Int)-1,w.1,w.2.1,w.2.2.1,w.2.2.2)) (MirQ w):=by intro i;induction i with|zero=>intro w _ hw;rw[jx.eq_1,if_neg z?];exact .ret ⟨hw,.refl w⟩|succ i ih=>intro w hi hw;have Sj:=hw.ok.sm;obtain⟨s,hs⟩:=gl (l:=w.2.2.1) (k:=i) o?;rw[show ((i+1:Nat):Int)-1=(i:Int) by omega,jx.eq_1,if_pos z?,qB (n:=(i:Int)-1) o? o?];refine .bind (mir_L2 i s.insts.l.length 0 w hw ⟨s,hs,o?⟩) fun v hv=>?_;rcases v with v|v;exact .ret hv;obtain⟨h1,h2⟩:=hv;refine(ih v (by rw[h2.len];omega) h1).mono fun u hu=>?_;rcases u with u|u;exact hu;exact⟨hu.1,h2.K3.trans hu.2⟩
theorem WE(w:World)(hw:WK w):qM (vd w.1 w.2.1 w.2.2.1 w.2.2.2) (fun v=>v.1≠0\/v.1=0/\WK v.2/\JH w v.2):=by have Sj:=hw.ok.sm;unfold vd;rw[qB (n:=(w.2.2.1.length:Int)-1) o? o?];refine .bind (mir_L0 w.2.2.1.length w (ju _) hw) fun v hv=>?_;rcases v with v|v;exact .ret (.inl hv);exact .ret (.inr ⟨rfl,hv.1,hv.2⟩)
end Xr
namespace Xr
section
variable {α:Type} (key:α->qk)
theorem pos_map(x:α)(s:List α): ∀k,pos key x s k=pos id (key x) (s.map key) k:=by intro k;induction k with|zero=>rfl|succ k ih=>rw[pos,pos,K?];cases s[k]? with|none=>rfl|some y=>simp only[D!,id,ih]
theorem Lh(x:α)(s:List α):(sK key s x).map key=sK id (s.map key) (key x):=by unfold sK;rw[pos_map key x s s.length,j_];simp[List.map_take,List.map_drop]
theorem T9: ∀(r s:List α),(jr key s r).map key=jr id (s.map key) (r.map key):=by intro r;induction r with|nil=>intro s;rfl|cons x r ih=>intro s;show(jr key (sK key s x) r).map key=jr id (sK id (s.map key) (key x)) (r.map key);rw[ih,Lh]
end
def gE(e:qz):Int:=(e.text.length:Int)-(e.span.to-e.span.qO)
def si(l:List qz):Int:=(l.map gE).sum
def vh(l:List qz):Nat:=(l.map fun e=>e.text.length).sum
theorem sumG_le{n:Int}: ∀(l:List qz),(∀ e∈l,e.span.qO<=e.span.to)->si l<=vh l:=by intro l;induction l with|nil=>intro _;simp[si,vh]|cons e l ih=>intro h;have h1:=h e z?;have h2:=ih fun e' VU=>h e' (by simp[VU]);simp only[si,vh,d?,u!,gE]at*;omega
theorem AS{l r:List qz}(h:l.Perm r):si l=si r:=by induction h with|nil=>rfl|cons x _ ih=>simp only[si,d?,u!]at *; omega|swap x y l=>simp only[si,d?,u!];omega|trans _ _ ih1 ih2=>exact ih1.trans ih2
theorem AU{l r:List qz}(h:l.Perm r):vh l=vh r:=by induction h with|nil=>rfl|cons x _ ih=>simp only[vh,d?,u!]at *; omega|swap x y l=>simp only[vh,d?,u!];omega|trans _ _ ih1 ih2=>exact ih1.trans ih2
def Ld(n:Int)(p:qk):Prop:=0<=p.qO/\p.qO<=p.to/\p.to<=n
theorem SM(p:qk)(n:Int): ∃b:Bool,tn p n=some b/\(b=true↔Ld n p):=by unfold tn Ld;by_cases h1:0<=p.qO<;>by_cases h2:p.qO<=p.to<;>simp[h1,h2]
theorem sumT_sp{n:Int}(hn:0<=n): ∀(l:List qz),(∀ e∈l,Ld n e.span)->(vh l:Int)<=si l+l.length*n:=by intro l;induction l with|nil=>intro _;simp[si,vh]|cons e l ih=>intro h;have h1:=h e z?;have h2:=ih fun e' VU=>h e' (by simp[VU]);unfold Ld at h1;simp only[si,vh,d?,u!,gE,b?]at*;push_cast at*;rw[Int.add_mul];omega
structure Kb (n:Int) (es:List qz):Prop where
 Jr: ∀e∈es,Ld n e.span
 apart:(jr (·.span) [] es).Pairwise fun a b=>a.span.to<=b.span.qO
theorem FU(n:Int)(es:Sl qz)(hl:es.l.length<2^60): ∀(r:List qz)(k:Nat),es.l.drop k=r-> ∃v,uO (n,es,(k:Int))=some v/\(v= .inl 3\/v= .inr ()/\ ∀e∈r,Ld n e.span):=by intro r;induction r with|nil=>intro k h;have:=zt h;rw[uO.eq_1,if_neg v?];exact⟨_,rfl,.inr ⟨rfl,z?⟩⟩|cons e r ih=>intro k h;obtain⟨h1,h2,h3⟩:=zH h;obtain⟨b,g1,g2⟩:=SM e.span n;rw[uO.eq_1,if_pos v?,gi h1,ws (k:=k) o?];simp only[zP,qV,g1];cases b with|false=>exact⟨_,rfl,.inl rfl⟩|true=>obtain⟨v,q1,q2⟩:=ih (k+1) h2;rw[if_neg z?,q1];refine⟨v,rfl, ?_⟩;rcases q2 with q2|⟨q2,q3⟩;exact .inl q2;refine .inr ⟨q2,fun e' VU=>?_⟩;rcases U?.1 VU with rfl|VU;exact g2.1 rfl;exact q3 e' VU
theorem AM(es:Sl qz)(hl:es.l.length<=2^20): ∀(r:List qz)(k:Nat)(out:List qk),es.l.drop k=r->out.length=k->bf (es,(k:Int),out)=some (out++r.map (·.span)):=by intro r;induction r with|nil=>intro k out h _;have:=zt h;rw[bf.eq_1,if_neg v?];simp|cons e r ih=>intro k out h ho;obtain⟨h1,h2,h3⟩:=zH h;rw[bf.eq_1,if_pos v?,gi h1,ws (k:=k) o?];simp only[zP,qV];rw[if_pos qH,ih (k+1) (out++[e.span]) h2 v?];simp
theorem IP(s:Sl qk)(hl:s.l.length<2^60): ∀(d k:Nat),k+d=s.l.length-> ∃v,yY (s,(k:Int))=some v/\(v= .inl false\/v= .inr ()/\ ∀(j:Nat) x,k<=j->s.l[j]? =some x->x.qO<=x.to/\(∀ y,0<j->s.l[j-1]? =some y->y.to<=x.qO)):=by intro d;induction d with|zero=>intro k h;rw[yY.eq_1,if_neg v?];exact⟨_,rfl,.inr ⟨rfl,fun j x hj hx=>by have:=(qL hx).1;omega⟩⟩|succ d ih=>intro k h;obtain⟨x,hx⟩:=gl (l:=s.l) (k:=k) o?;obtain⟨v,q1,q2⟩:=ih (k+1) o?;rw[yY.eq_1,if_pos v?,gi hx,ws (k:=k) o?];simp only[zP,qV];by_cases c1:x.qO>x.to;rw[if_pos (by simpa using c1)];exact⟨_,rfl,.inl rfl⟩;rw[if_neg (by simpa using c1)];cases k with|zero=>rw[if_neg z?,q1];refine⟨v,rfl, ?_⟩;rcases q2 with q2|⟨q2,q3⟩;exact .inl q2;refine .inr ⟨q2,fun j z hj hz=>?_⟩;by_cases c:j=0;subst c;rw[hx]at hz;cases hz;exact⟨o?,fun y hy=>o?⟩;exact q3 j z o? hz|succ k=>obtain⟨y,hy⟩:=gl (l:=s.l) (k:=k) o?;rw[if_pos (by simp<;>omega),show q?.wrap (((k+1:Nat):Int)-1)=(k:Int)from by rw[qB o? o?];omega,gi hy];simp only[qV];by_cases c2:x.qO<=y.qO;rw[if_pos (by simpa using c2)];exact⟨_,rfl,.inl rfl⟩;rw[if_neg (by simpa using c2)];by_cases c3:x.qO<y.to;rw[if_pos (by simpa using c3)];exact⟨_,rfl,.inl rfl⟩;rw[if_neg (by simpa using c3),q1];refine⟨v,rfl, ?_⟩;rcases q2 with q2|⟨q2,q3⟩;exact .inl q2;refine .inr ⟨q2,fun j z hj hz=>?_⟩;by_cases c:j=k+1;subst c;rw[hx]at hz;cases hz;refine⟨o?,fun y' _ L6=>?_⟩;rw[w_,hy]at L6;cases L6;omega;exact q3 j z o? hz
theorem KW(s:List qk)(h: ∀(j:Nat) x,s[j]? =some x->x.qO<=x.to/\(∀ y,0<j->s[j-1]? =some y->y.to<=x.qO)):s.Pairwise fun a b=>a.to<=b.qO:=by
 rw[b!];intro i j hi hj Ed;have key: ∀(d:Nat)(x:qk),s[i+1+d]? =some x->(s[i]'hi).to<=x.qO:=by intro d;induction d with|zero=>intro x hx;exact(h (i+1) x hx).2 _ o? (by rw[w_];exact wK hi)|succ d ih=>intro x hx;have hl:=(qL hx).1;obtain⟨y,hy⟩:=gl (l:=s) (k:=i+1+d) o?;have h1:=ih y hy;have h2:=(h (i+1+d) y hy).1;have h3:=(h (i+1+(d+1)) x hx).2 y o? (by rw[show i+1+(d+1)-1=i+1+d by omega];exact hy);omega
 have:=key (j-(i+1)) (s[j]'hj) (by rw[show i+1+(j-(i+1))=j by omega];exact wK hj);exact this
theorem Oy(es:Sl qz)(hl:es.l.length<=2^20)(hb: ∀e∈es.l,-(2^36)<=e.span.to-e.span.qO/\e.span.to-e.span.qO<=2^36): ∀(r:List qz)(k:Nat)(n:Int),es.l.drop k=r-> -(k:Int)*2^38-2^40<=n->n+vh r+r.length*2^36<=2^61->bc (n,es,(k:Int))=some (n+si r):=by intro r;induction r with|nil=>intro k n h _ _;have:=zt h;rw[bc.eq_1,if_neg v?];simp[si]|cons e r ih=>(intro k n h Ee Sw;obtain⟨h1,h2,h3⟩:=zH h;obtain⟨b2,b3⟩:=hb e (zc h1);have JX:(k:Int)<=2^20:=o?;have hT:(vh (e::r):Int)=e.text.length+vh r:=by simp[vh]);simp only[b?]at Sw;rw[hT]at Sw;rw[bc.eq_1,if_pos v?,gi h1,ws (k:=k) o?];simp only[zP,qV];rw[qB (n:=n+(e.text.length:Int)) o? o?,qB (n:=e.span.to-e.span.qO) o? o?,qB (n:=n+(e.text.length:Int)-(e.span.to-e.span.qO)) o? o?];rw[ih (k+1) _ h2 (by push_cast;omega) (by push_cast;omega)];simp only[si,d?,u!,gE];congr 1;omega
theorem SN(n:Int)(hn:0<=n/\n<=2^36)(es:Sl qz)(hl:es.l.length<=2^19)(ht:vh es.l<=2^60):qM (iG n es) (fun v=>v=0->Kb n es.l/\n+si es.l<=65536):=by
 have hR:qM (cZ n es) (fun v=>v=0->Kb n es.l):=by unfold cZ;obtain⟨v,g1,g2⟩:=FU n es o? es.l 0 rfl;refine .go g1 ?_;rcases g2 with rfl|⟨rfl,g2⟩;exact .ret fun h=>absurd h (by decide);(have hs:ag es=some ⟨(es.l.map (·.span)).isEmpty,es.l.map (·.span)⟩:=by unfold ag;rw[show (0:Int)=((0:Nat):Int)from rfl,AM es o? es.l 0 [] rfl rfl];rfl);(refine .go hs ?_;have dg:=(tY id (es.l.map (·.span)) []).length_eq;simp only[L?,j_]at dg;have hA:qM (fZ ⟨(es.l.map (·.span)).isEmpty,es.l.map (·.span)⟩) (fun b=>b=true->(jr id [] (es.l.map (·.span))).Pairwise fun a b=>a.to<=b.qO):=by unfold fZ;refine .go (Mt _ v?) ?_;obtain⟨w,q1,q2⟩:=IP ⟨(jr id [] (es.l.map (·.span))).isEmpty,jr id [] (es.l.map (·.span))⟩ u? (jr id [] (es.l.map (·.span))).length 0 z?;refine .go q1 ?_;rcases q2 with rfl|⟨rfl,q2⟩;exact .ret z?;exact .ret fun _=>KW _ fun j x hx=>q2 j x o? hx);refine .bind hA fun b hb=>?_;refine .ite (fun _=> .ret fun h=>absurd h (by decide)) fun c=> .ret fun _=>⟨g2, ?_⟩;have jD:=hb (by simpa using c);rw[show jr id [] (es.l.map (·.span))=(jr (·.span) [] es.l).map (·.span)from(T9 (fun x:qz=>x.span) es.l []).symm]at jD;exact q0j.1 jD
 unfold iG;refine .bind hR fun v hv=>?_;refine .ite (fun c=> .ret fun h=>absurd h (by simpa using c)) fun c=>?_;have dx:=hv (by simpa using c);have hG:a8 n es=some (n+si es.l):=by unfold a8;rw[show (0:Int)=((0:Nat):Int)from rfl,Oy es o? (fun e he=>⟨by have:=dx.Jr e he;unfold Ld at this;omega,by have:=dx.Jr e he;unfold Ld at this;omega⟩) es.l 0 n rfl o? o?];rfl
 refine .go hG ?_;refine .ite (fun _=> .ret fun h=>absurd h (by decide)) fun c=> .ret fun _=>⟨dx,by simpa using c⟩
end Xr
namespace Xr
abbrev WO(w:World):=S3 pL w.1 w.2.1 w.2.2.1 w.2.2.2
theorem S3.take{w:World}(h:WO w)(n:Nat):S3 pL w.1 w.2.1 (w.2.2.1.take n) ⟨w.2.2.2.nil,w.2.2.2.l.take n⟩:=by
 have get: ∀(j:Nat) s,(w.2.2.1.take n)[j]? =some s->w.2.2.1[j]? =some s:=fun j s hs=>by exact tW
 refine⟨h.blen,h.ne,h.qn,h.K6,h.Yn,h.Jr,by have:=h.sm;simp;omega,fun s hs=>h.small s (Y? hs),fun s hs=>h.may s (Y? hs),by simp[h.W9],fun c=>h.fnn fun c2=>c (by rw[c2];simp), ?_,fun s hs=>h.stop s (Y? hs)⟩;intro j s f hs hf;have hj:=(qL hf).1;simp at hj;simp only at hf;rw[V? o?]at hf;exact h.each j s f (get j s hs) hf
theorem lead_L2(n:Nat)(l:Sl qz)(n0:Int)(Gw:0<=n0/\n0<=65536)(hT:vh l.l<=2^36)(dm: ∀e∈l.l,0<=e.span.qO/\e.span.qO<=e.span.to)(hap:l.l.Pairwise fun a b=>a.span.to<=b.span.qO)(Fa:l.l.length<=2^20):
  ∀(k:Nat)(w:World),k<=l.l.length->WO w->w.2.2.1.length=n->(w.1.length:Int)=n0+si (l.l.drop k)->(∀ e∈l.l.take k,e.span.to<=w.1.length)->
  qM (xZ ((n:Int),l,(k:Int)-1,w.1,w.2.1,w.2.2.1,w.2.2.2)) (fun v:World=>WO v/\(v.1.length:Int)=n0+si l.l/\JH w v):=by
 intro k;induction k with
  |zero=>intro w _ hw _ hlen _;rw[xZ.eq_1,if_neg z?];exact .ret ⟨hw,by simpa using hlen,.refl w⟩
  |succ k ih=>
   (intro w hk hw hwn hlen hto;obtain⟨e,he⟩:=gl (l:=l.l) (k:=k) o?;have hem:=zc he;have hei:=dm e hem;have hd:l.l.drop k=e::l.l.drop (k+1):=by have Zs:=(qL he).1;rw[Z! Zs];rw[wK Zs]at he;cases he;rfl);(have htk:e∈l.l.take (k+1):=by rw[List.take_add_one,he];simp);(have dy:=hto e htk;have hsT: ∀j,vh (l.l.drop j)<=vh l.l:=by intro j;have:=List.take_append_drop j l.l;have h5:=congrArg vh this;simp only[vh,List.map_append,List.sum_append]at h5 |-;omega);(have hsg:=sumG_le (n:=0) (l.l.drop (k+1)) fun e' VU=>(dm e' (List.mem_of_mem_drop VU)).2;have ht1:=hsT (k+1);have ht0:=hsT k;have het:e.text.length<=vh (l.l.drop k):=by rw[hd];simp only[vh,d?,u!];omega);(have hE:bU e w.1.length:=⟨o?,o?,o?,o?,o?⟩;have hnext: ∀(v:World),WO v->v.1=newText w.1 e->JH w v->qM (xZ ((n:Int),l,(k:Int)-1,v.1,v.2.1,v.2.2.1,v.2.2.2)) (fun v:World=>WO v/\(v.1.length:Int)=n0+si l.l/\JH w v):=by intro v hv ht hs;have Na:=Jw w.1 e hE;rw[<- ht]at Na;refine(ih v o? hv (by rw[hs.len];exact hwn) ?_ ?_).mono fun u hu=>⟨hu.1,hu.2.1,hs.trans hu.2.2⟩;rw[hd];simp only[si,d?,u!,gE]at hlen |-;omega;(intro e' VU;obtain⟨j,hj⟩:=jI VU;have Vr:j<k:=by have:=(qL hj).1;simp at this;omega);rw[V? Vr]at hj;have N5:=(qL hj).1;have pd:=(qL he).1;have:=b!.1 hap j k N5 pd Vr;rw[wK N5]at hj;rw[wK pd]at he;cases hj;cases he;omega);rw[show ((k+1:Nat):Int)-1=(k:Int) by omega,xZ.eq_1,if_pos z?,show q?.wrap ((k:Int)-1)=(k:Int)-1 from qB o? o?];have Sj:=hw.sm;by_cases hn:0<n
   ·obtain⟨s,hs⟩:=gl (l:=w.2.2.1) (k:=n-1) o?;rw[if_pos (by simpa using hn),show q?.wrap ((n:Int)-1)=((n-1:Nat):Int)from by rw[qB o? o?];omega];refine .go (gi hs) ?_;refine .go (gi he) ?_;refine .bind (XZ s e.span (hw.small s (zc hs))) fun o ho=>?_;obtain⟨v,g1,g2⟩:=Td lU hw hE o? ((n-1:Nat):Int) o.1 o.2 true (by
     rcases ho with rfl|ho
     ·exact .inl ⟨rfl,rfl⟩
     have:=ho.nat
     obtain⟨a',k',i,x,q1,q2,q3,q4,_,_,q5⟩:=ho
     exact .inr ⟨n-1,s,rfl,hs,o?,.inr ⟨a',k',i,x,q1,q2,q3,q4,q5⟩⟩)
    refine .go g1 ?_;exact hnext v g2.ok g2.text ⟨g2.len,g2.cur⟩
   rw[if_neg (by simpa using hn)];refine .go (gi he) ?_;obtain⟨v,g1,g2⟩:=Td lU hw hE o? (q?.wrap ((n:Int)-1)) (-1) (-1) true (.inl ⟨rfl,rfl⟩);refine .go g1 ?_;exact hnext v g2.ok g2.text ⟨g2.len,g2.cur⟩
theorem lead_L0(es:Sl qz)(he:es.l.length<2^60)(w:qa)(w2:Sl qm)(ss:List qc)(fl:Sl (Sl (Sl Int)))(hs: ∀s∈ss,jH s)(Sj:ss.length<=16): ∀k,k<=ss.length->qM (kq (es,(k:Int),w,w2,ss,fl)) (fun v=> ∃n:Nat,v=n/\n<=k):=by intro k;induction k with|zero=>intro _;rw[kq.eq_1,if_neg z?];exact .ret ⟨0,rfl,ju _⟩|succ k ih=>intro hk;obtain⟨s,mF⟩:=gl (l:=ss) (k:=k) o?;rw[kq.eq_1,if_pos (by simp<;>omega),show q?.wrap (((k+1:Nat):Int)-1)=(k:Int)from by rw[qB o? o?];omega];refine .go (gi mF) ?_;refine .bind (AO s es (hs s (zc mF)) he) fun b _=>?_;refine .ite (fun _=>?_) fun _=> .ret ⟨k+1,rfl,ju _⟩;exact tW
structure Led (w:World) (es:List qz) (v:World):Prop where
 ok:WO v
 text:(v.1.length:Int)=w.1.length+si es
 len:v.2.2.1.length<=w.2.2.1.length
 cur: ∀(j:Nat) s',v.2.2.1[j]? =some s' -> ∃s,w.2.2.1[j]? =some s/\s'.cur=s.cur
theorem cG(w:World)(hw:WO w)(hn:w.1.length<=65536)(es:Sl qz)(hE:Kb w.1.length es.l)(hT:vh es.l<=2^36)(hl:es.l.length<=2^19):qM (ue es w.1 w.2.1 w.2.2.1 w.2.2.2) (Led w es.l):=by
 have hp:=tY (·.span) es.l [];simp only[L?]at hp;have dg:=hp.length_eq;unfold ue;refine .bind (lead_L0 es o? w.1 w.2.1 w.2.2.1 w.2.2.2 hw.small hw.sm w.2.2.1.length (ju _)) fun v hv=>?_;obtain⟨n,rfl,hnl⟩:=hv;refine .go (JO _ _ hnl) ?_;refine .go (JO _ _ (by rw[hw.W9];exact hnl)) ?_;refine .go (Mu es o?) ?_;have MT:=hw.take n;have sI: ∀e∈jr (·.span) [] es.l,Ld w.1.length e.span:=fun e he=>hE.Jr e (hp.mem_iff.1 he);have hd0:si ((jr (·.span) [] es.l).drop (jr (·.span) [] es.l).length)=0:=by simp[si]
 have h:=lead_L2 n ⟨(jr (·.span) [] es.l).isEmpty,jr (·.span) [] es.l⟩ w.1.length o? (by simp only;rw[AU hp];exact hT) (fun e he=>by have:=sI e he;unfold Ld at this;omega) hE.apart u?
  (jr (·.span) [] es.l).length (w.1,w.2.1,w.2.2.1.take n,⟨w.2.2.2.nil,w.2.2.2.l.take n⟩) (ju _) MT v? (by simp only;rw[hd0];omega) (fun e he=>by have:=sI e (Y? he);unfold Ld at this;exact this.2.2)
 rw[qB (n:=((jr (·.span) [] es.l).length:Int)-1) o? o?];refine .bind h fun u hu=> .ret ?_;change Led w es.l u;obtain⟨h1,h2,h3⟩:=hu;simp only[AS hp]at h2;refine⟨h1,h2, ?_, ?_⟩;have:=h3.len;exact tW;intro j s' oM;have hj:=(qL oM).1;have hlen:=h3.len;simp only[A_]at hlen;obtain⟨s,hs⟩:=gl (l:=w.2.2.1) (k:=j) o?;have Wo:(w.2.2.1.take n)[j]? =some s:=by rw[V? o?];exact hs
 obtain⟨s2,k1,k2⟩:=h3.cur j s Wo;exact tW
end Xr
namespace Xr
theorem lies_eq(s:qk)(l:Sl qk)(hL:l.l.length<2^60):gY s l=some (l.l.any fun p=>decide (xx s p)):=by unfold gY;rw[show (0:Int)=((0:Nat):Int)from rfl,SI s l hL l.l 0 rfl];exact tW
theorem Xc{s:qc}(hs:jH s)(n:Int):(vS n s.insts.l).length<=2^24:=by
 have h1:=Qc hs.2;have h2:s.insts.l.length*2^12<=2^12*2^12:=H_ hs.1 (ju _);have h3: ∀is:List qu,(vS n is).length<=many is:=by intro is;induction is with|nil=>simp[vS,many]|cons i is ih=>have:=J1 n i.stops.l;simp only[vS,many,List.flatMap_cons,s?,d?,u!]at*;omega
 have:=h3 s.insts.l;omega
structure SS (n:Int) (ss:List qc):Prop where
 sm:ss.length<=16
 small: ∀s∈ss,jH s
 may: ∀s∈ss,dv s.insts.l n
 stop: ∀s∈ss,∀ i∈s.insts.l,∀ x∈i.stops.l,pL x
theorem dv.filter{is:List qu}{n:Int}(h:dv is n)(p:qu->Bool):dv (is.filter p) n:=by
 have hp:is.Pairwise fun i j=>i.span.to<=j.span.qO:=by rw[b!];intro a b ha hb eH;exact h.Rk a b _ _ eH (wK ha) (wK hb)
 have hf:=hp.sublist (List.filter_sublist (l:=is) (p:=p));constructor;intro a i hi;obtain⟨b,hb⟩:=jI (Z'.1 (zc hi)).1;exact h.may b i hb;intro a b i j eH hi hj;have ha:=(qL hi).1;have hb:=(qL hj).1;have:=b!.1 hf a b ha hb eH;exact tW
def Vd(ss:List qc)(i:Nat)(x:qu):Bool:=if i=0 then true else match ss[i-1]? with
 |some p=>(vS p.cur p.insts.l).any fun q=>decide (xx x.span q)
 |none=>false
theorem Ob(w:qa)(w2:Sl qm)(ss:List qc)(fl:Sl (Sl (Sl Int)))(hs: ∀s∈ss,jH s)(Sj:ss.length<=16)(i:Nat)(hi:i<ss.length)(s:qc)(Vs:jH s): ∀(r:List qu)(a:Nat)(is:List qu),s.insts.l.drop a=r->is.length<=a->
  xP ((i:Int),(a:Int),w,w2,ss,fl,s,is)=some (is++r.filter (Vd ss i)):=by intro r;have mF:=Vs.1;induction r with|nil=>intro a is h _;have:=zt h;rw[xP.eq_1,if_neg v?];simp|cons x r ih=>intro a is h ho;obtain⟨h1,h2,h3⟩:=zH h;rw[xP.eq_1,if_pos v?,ws (k:=a) o?];have e1:=ih (a+1) (is++[x]) h2 v?;have e2:=ih (a+1) is h2 o?;by_cases c:i=0;subst c;rw[if_pos z?,gi h1];simp only[zP,qV];rw[if_pos qH,e1];simp[F!,Vd];(obtain⟨p,hp⟩:=gl (l:=ss) (k:=i-1) o?;have Fi:=hs p (zc hp);rw[if_neg v?,gi h1];simp only[zP,qV];rw[show q?.wrap ((i:Int)-1)=((i-1:Nat):Int)from by rw[qB o? o?];omega,gi hp];simp only[qV];rw[Xd p.cur p.insts Fi.2 Fi.1];simp only[qV];have hsl:=Xc Fi p.cur;rw[lies_eq _ _ u?];simp only[qV];have Wo:Vd ss i x=(vS p.cur p.insts.l).any fun q=>decide (xx x.span q):=by unfold Vd;rw[if_neg c,hp]);rw[F!,Wo];cases(vS p.cur p.insts.l).any fun q=>decide (xx x.span q)with|true=>rw[if_pos rfl,if_pos qH,e1];simp|false=>rw[if_neg z?,e2];simp
def GW(k:Nat)(ss:List qc):Prop:= ∀(j:Nat) s,j<k->ss[j]? =some s->s.insts.l≠[]/\vS s.cur s.insts.l≠[]/\(0<j-> ∀p,ss[j-1]? =some p-> ∀x∈s.insts.l,eu x.span (vS p.cur p.insts.l))
def Curs(aC ss:List qc):Prop:=ss.length<=aC.length/\ ∀(j:Nat) s',ss[j]? =some s' -> ∃s,aC[j]? =some s/\s'.cur=s.cur
structure Fin (n:Int) (aC ss:List qc):Prop where
 ok:SS n ss
 closed:GW ss.length ss
 KZ:Curs aC ss
theorem Oa(n:Int)(w:qa)(w2:Sl qm)(fl:Sl (Sl (Sl Int)))(aC:List qc): ∀(d i:Nat)(ss:List qc),i+d=ss.length->SS n ss->GW i ss->Curs aC ss->
  qM (jM ((i:Int),w,w2,ss,fl)) (fun v=>match v with| .inl y=>Fin n aC y.2| .inr y=>Fin n aC y):=by
 intro d;induction d with
  |zero=>intro i ss h H hc He;rw[jM.eq_1,if_neg v?];obtain rfl:i=ss.length:=o?;exact .ret ⟨H,hc,He⟩
  |succ d ih=>
   (intro i ss h H hc He;have Sj:=H.sm;obtain⟨s,hs⟩:=gl (l:=ss) (k:=i) o?;have sI:=zc hs;have Qu:=H.small s sI;rw[jM.eq_1,if_pos v?,ws (k:=i) o?];refine .go (gi hs) ?_;have e2:=Ob w w2 ss fl H.small Sj i o? s Qu s.insts.l 0 [] rfl z?;rw[L?,show((0:Nat):Int)=0 from rfl]at e2;refine .go e2 ?_;generalize hF:s.insts.l.filter (Vd ss i)=F;have hFs: ∀x∈F,x∈s.insts.l/\Vd ss i x=true:=fun x hx=>by rw[<- hF]at hx;exact Z'.1 hx);(have hFl:F.length<=s.insts.l.length:=by rw[<- hF];exact List.length_filter_le _ _);have hsmF:jH ⟨s.cur,⟨F.isEmpty,F⟩⟩:=⟨by have:=Qu.1;simp only;omega,fun x hx=>Qu.2 x (hFs x hx).1⟩;refine .go (Xd s.cur ⟨F.isEmpty,F⟩ hsmF.2 hsmF.1) ?_;by_cases ce:vS s.cur F=[];(rw[if_pos (by simp[ce])];refine .go (JO _ _ o?) ?_;have tk: ∀(j:Nat) x,(ss.take i)[j]? =some x->j<i/\ss[j]? =some x:=fun j x hx=>by have:=(qL hx).1;simp at this;rw[V? o?]at hx;exact⟨o?,hx⟩);refine .ret ⟨⟨v?,fun s hs=>H.small s (Y? hs),fun s hs=>H.may s (Y? hs),fun s hs=>H.stop s (Y? hs)⟩, ?_,⟨by have:=He.1;simp;omega,fun j x hx=>He.2 j x (tk j x hx).2⟩⟩;intro j x hj hx;obtain⟨k1,k2⟩:=tk j x hx;obtain⟨q1,q2,q3⟩:=hc j x k1 k2;exact⟨q1,q2,fun hj0 p hp=>q3 hj0 p (tk (j-1) p hp).2⟩;(rw[if_neg (by simpa using ce),X?];have jZ:F≠[]:=fun c=>ce (by rw[c];rfl);have qo: ∀(j:Nat) x,(ss.set i ⟨s.cur,⟨F.isEmpty,F⟩⟩)[j]? =some x->(j=i/\x=⟨s.cur,⟨F.isEmpty,F⟩⟩)\/(j≠i/\ss[j]? =some x):=fun j x hx=>by rw[xM]at hx;split at hx;rename_i c;cases hx;exact .inl ⟨c.1.symm,rfl⟩;rename_i c;refine .inr ⟨fun c2=>c ⟨c2.symm,o?⟩,hx⟩);refine ih (i+1) _ v? ⟨v?, ?_, ?_, ?_⟩ ?_ ⟨by have:=He.1;simp;omega, ?_⟩;intro x hx;rcases n! hx with hx|rfl;exact H.small x hx;exact hsmF;intro x hx;rcases n! hx with hx|rfl;exact H.may x hx;show dv F n;rw[<- hF];exact(H.may s sI).filter _;intro x hx;rcases n! hx with hx|rfl;exact H.stop x hx;exact fun y hy=>H.stop s sI y (hFs y hy).1;intro j x hj hx;rcases qo j x hx with ⟨rfl,rfl⟩|⟨hji,hx⟩;refine⟨jZ,ce,fun hj0 p hp y hy=>?_⟩;rw[xM,if_neg o?]at hp;have:=(hFs y hy).2;unfold Vd at this;rw[if_neg o?,hp]at this;simpa[eu]using this;obtain⟨q1,q2,q3⟩:=hc j x o? hx;refine⟨q1,q2,fun hj0 p hp=>q3 hj0 p ?_⟩;rw[xM,if_neg o?]at hp;exact hp;intro j x hx;rcases qo j x hx with ⟨rfl,rfl⟩|⟨_,hx⟩
   ·exact(by
     obtain⟨s0,k1,k2⟩:=He.2 j s hs
     exact⟨s0,k1,k2⟩)
   exact He.2 j x hx
theorem Yq(w:World)(hw:WO w):qM (yd w.1 w.2.1 w.2.2.1 w.2.2.2) (fun v=>match v with| .inl y=>Fin w.1.length w.2.2.1 y| .inr y=>Fin w.1.length w.2.2.1 y):=by unfold yd;refine .bind (Oa w.1.length w.1 w.2.1 w.2.2.2 w.2.2.1 w.2.2.1.length 0 w.2.2.1 o? ⟨hw.sm,hw.small,hw.may,hw.stop⟩ (fun j s hj=>o?) ⟨ju _,fun j s hs=>⟨s,hs,rfl⟩⟩) fun v hv=>?_;rcases v with v|v<;>exact .ret hv
end Xr
namespace Xr
def S0(l:List qt)(k:Nat):Prop:= ∀(r:Nat) x,r<k->l[r]? =some x-> -1<=x.up/\x.up<r/\ ∀(q:Nat) y,q<r->x.up<q->l[q]? =some y->x.up<=y.up
theorem Le(l:Sl qt)(b:Nat): ∀a:Nat,a<l.l.length->S0 l.l (a+1)-> ∃t:Bool,kV (l,(a:Int),(b:Int))=some (if t=true then .inl true else .inr ())/\(t=true↔b<a/\ ∀(q:Nat) y,b<q->q<=a->l.l[q]? =some y->(b:Int)<=y.up):=by intro a;induction a using r? with|_ a ih=>intro ha hp;obtain⟨x,hx⟩:=gl ha;obtain⟨p1,p2,p3⟩:=hp a x o? hx;rw[kV.eq_1,if_pos v?,gi hx];simp only[zP,qV];by_cases c0:0<=x.up;obtain⟨u,hu⟩: ∃u:Nat,x.up=u:=⟨x.up.toNat,o?⟩;rw[if_pos (by simpa using c0),if_pos (by simpa using p2)];by_cases c1:x.up=b;rw[if_pos (by simpa using c1)];refine⟨true,rfl,fun _=>⟨o?,fun q y h1 h2 hy=>?_⟩,fun _=>rfl⟩;by_cases c:q=a;subst c;rw[hx]at hy;cases hy;omega;have:=p3 q y o? o? hy;omega;rw[if_neg (by simpa using c1),hu];obtain⟨t,g1,g2⟩:=ih u o? o? (fun r z hr hz=>hp r z o? hz);refine⟨t,g1,g2.trans ⟨fun h=>⟨o?,fun q y h1 h2 hy=>?_⟩,fun h=>?_⟩⟩;by_cases c:q=a;subst c;rw[hx]at hy;cases hy;omega;by_cases c2:q<=u;exact h.2 q y h1 c2 hy;have:=p3 q y o? o? hy;omega;have:=h.2 a x h.1 (ju _) hx;exact⟨o?,fun q y h1 h2 hy=>h.2 q y h1 o? hy⟩;rw[if_neg (by simpa using c0)];refine⟨false,rfl,fun h=>(by cases h),fun h=>?_⟩;have:=h.2 a x h.1 (ju _) hx;omega
theorem in_ok(l:Sl qt)(a b:Nat)(ha:a<l.l.length)(hp:S0 l.l (a+1)): ∃t:Bool,th l (a:Int) (b:Int)=some t/\(t=true↔b<a/\ ∀(q:Nat) y,b<q->q<=a->l.l[q]? =some y->(b:Int)<=y.up):=by obtain⟨t,h1,h2⟩:=Le l b a ha hp;refine⟨t, ?_,h2⟩;unfold th;rw[h1];cases t<;>rfl
def Sibs(l:List qt)(x:qt)(j k:Nat):Prop:= ∀(q:Nat) y,j<=q->q<k->l[q]? =some y->y.up=x.up->y.span.to<=x.span.qO
theorem LD(i:qu)(x:qt)(b:qk)(k:Nat)(hk:k<=i.stops.l.length)(hl:i.stops.l.length<2^60): ∀(d j:Nat),j+d=k-> ∃t:Bool,xO ((k:Int),(j:Int),i,x,b)=some (if t=true then .inr ()else .inl false)/\(t=true↔Sibs i.stops.l x j k):=by intro d;induction d with|zero=>intro j h;rw[xO.eq_1,if_neg v?];exact⟨true,rfl,fun _ q y h1 h2=>o?,fun _=>rfl⟩|succ d ih=>intro j h;obtain⟨y,hy⟩:=gl (l:=i.stops.l) (k:=j) o?;obtain⟨t,g1,g2⟩:=ih (j+1) o?;rw[xO.eq_1,if_pos v?,gi hy,ws (k:=j) o?];simp only[zP,qV,g1];by_cases c1:y.up=x.up;by_cases c2:x.span.qO<y.span.to;rw[if_pos (by simpa using c1),if_pos (by simpa using c2)];refine⟨false,rfl,fun h=>(by cases h),fun h=>?_⟩;have:=h j y (ju _) o? hy c1;omega;rw[if_pos (by simpa using c1),if_neg (by simpa using c2)];refine⟨t,rfl,g2.trans ⟨fun h q z h1 h2 hz hu=>?_,fun h q z h1 h2 hz hu=>h q z o? h2 hz hu⟩⟩;by_cases c:q=j;subst c;rw[hy]at hz;cases hz;omega;exact h q z o? h2 hz hu;rw[if_neg (by simpa using c1)];refine⟨t,rfl,g2.trans ⟨fun h q z h1 h2 hz hu=>?_,fun h q z h1 h2 hz hu=>h q z o? h2 hz hu⟩⟩;by_cases c:q=j;subst c;rw[hy]at hz;cases hz;exact absurd hu c1;exact h q z o? h2 hz hu
structure Good (i:qu) (k:Nat) (x:qt):Prop where
 up: -1<=x.up/\x.up<k
 pre: ∀(q:Nat) y,q<k->x.up<q->i.stops.l[q]? =some y->x.up<=y.up
 le:x.span.qO<=x.span.to
 top:x.up= -1->xx x.span i.span
 nest: ∀(p:Nat) y,x.up=p->i.stops.l[p]? =some y->xx x.span y.span
 Pb:Sibs i.stops.l x 0 k
theorem Nw(i:qu)(k:Nat)(x:qt)(hx:i.stops.l[k]? =some x)(hl:i.stops.l.length<2^60)(hp:S0 i.stops.l k): ∃t:Bool,zM ((k:Int),i)=(if t=true then zM (((k+1:Nat):Int),i)else some (.inl false))/\(t=true↔Good i k x):=by
 have hk:=(qL hx).1;have tail: ∀(b:qk),∃ t:Bool,(if decide (x.span.qO>x.span.to)=true then some (.inl false)else xr x.span b>>=fun v=>if(!v)=true then some (.inl false)else
   xO ((k:Int),(0:Int),i,x,b)>>=fun v=>match v with
    | .inl y=>some (.inl y)
    | .inr _=>zM (((k+1:Nat):Int),i))=(if t=true then zM (((k+1:Nat):Int),i)else some (.inl false))/\(t=true↔x.span.qO<=x.span.to/\xx x.span b/\Sibs i.stops.l x 0 k):=by
  intro b;by_cases c1:x.span.qO>x.span.to
  ·rw[if_pos (by simpa using c1)];exact⟨false,rfl,fun h=>(by cases h),fun h=>o?⟩
  rw[if_neg (by simpa using c1),iT];simp only[zP,qV];by_cases c2:xx x.span b
  ·rw[if_neg (by simpa using c2)];obtain⟨t,g1,g2⟩:=LD i x b k o? hl k 0 o?;rw[show ((0:Nat):Int)=0 from rfl]at g1;rw[g1];refine⟨t, ?_,g2.trans ⟨fun h=>⟨o?,c2,h⟩,fun h=>h.2.2⟩⟩;cases t<;>rfl
  rw[if_pos (by simpa using c2)];exact⟨false,rfl,fun h=>(by cases h),fun h=>absurd h.2.1 c2⟩
 rw[zM.eq_1,if_pos v?,gi hx,ws (k:=k) o?,qB (n:=(k:Int)-1) o? o?];simp only[zP,qV]at tail |-;by_cases hu:x.up= -1;rw[if_neg (by simp[hu]),if_neg (by simp[hu])];obtain⟨t,g1,g2⟩:=tail i.span;refine⟨t,g1,g2.trans ⟨fun h=>⟨o?,fun q y _ _ hy=>?_,h.1,fun _=>h.2.1,fun p y hpp=>o?,h.2.2⟩,fun h=>⟨h.le,h.top hu,h.Pb⟩⟩⟩;have:=(hp q y o? hy).1;omega;rw[if_pos (by simpa using hu)];by_cases hr:0<=x.up/\x.up<k;{(obtain⟨p,hpu⟩: ∃p:Nat,x.up=p:=⟨x.up.toNat,o?⟩;obtain⟨y,hy⟩:=gl (l:=i.stops.l) (k:=p) o?;have hgy:qh i.stops.l x.up=some y:=by rw[hpu];exact gi hy);(rw[if_neg v?];obtain⟨t,g1,g2⟩:=tail y.span;have conv:(x.span.qO<=x.span.to/\xx x.span y.span/\Sibs i.stops.l x 0 k)/\(∀(q:Nat) y,q<k->x.up<q->i.stops.l[q]? =some y->x.up<=y.up)↔Good i k x:=by constructor;rintro⟨⟨a1,a2,a3⟩,a4⟩;refine⟨o?,a4,a1,fun h=>absurd h hu,fun p' y' hp' L6=>?_,a3⟩;obtain rfl:p=p' :=o?;rw[hy]at L6;cases L6;exact a2;intro h;exact⟨⟨h.le,h.nest p y hpu hy,h.Pb⟩,h.pre⟩);by_cases h7:x.up=(k:Int)-1;rw[if_neg (by simp[h7]),if_pos v?,hgy];simp only[qV];exact⟨t,g1,g2.trans ⟨fun h=>conv.1 ⟨h,fun q y _ _=>o?⟩,fun h=>(conv.2 h).1⟩⟩;rw[if_pos (by simpa using h7)];obtain⟨t2,q1,q2⟩:=in_ok i.stops (k-1) p o? (fun r z hr' hz=>hp r z o? hz);rw[show (k:Int)-1=((k-1:Nat):Int) by omega,hpu,q1];simp only[qV];cases t2 with|false=>rw[if_pos z?];refine⟨false,rfl,fun h=>(by cases h),fun h=>?_⟩;have:=q2.2 ⟨o?,fun q z h1 h2 hz=>by have:=h.pre q z o? o? hz;omega⟩;cases this|true=>have q3:=q2.1 rfl;rw[if_neg z?,if_pos z?,<- hpu,hgy];simp only[qV];exact⟨t,g1,g2.trans ⟨fun h=>conv.1 ⟨h,fun q z h1 h2 hz=>by have:=q3.2 q z o? o? hz;omega⟩,fun h=>(conv.2 h).1⟩⟩};rw[if_pos (by simp only[j!,decide_eq_true_eq];omega)];exact⟨false,rfl,fun h=>(by cases h),fun h=>by have:=h.up;omega⟩
theorem LC(i:qu)(hl:i.stops.l.length<2^60): ∀(d k:Nat),k+d=i.stops.l.length->S0 i.stops.l k-> ∃t:Bool,zM ((k:Int),i)=some (if t=true then .inr ()else .inl false)/\(t=true↔ ∀(r:Nat) x,k<=r->i.stops.l[r]? =some x->Good i r x):=by
 intro d;induction d with
 |zero=>
  intro k h _;rw[zM.eq_1,if_neg v?];exact⟨true,rfl,fun _ r x hr hx=>by have:=(qL hx).1;omega,fun _=>rfl⟩
 |succ d ih=>
  intro k h hp;obtain⟨x,hx⟩:=gl (l:=i.stops.l) (k:=k) o?;obtain⟨t,g1,g2⟩:=Nw i k x hx hl hp;rw[g1];cases t with
  |false=>
   rw[if_neg z?];refine⟨false,rfl,fun h=>(by cases h),fun h=>?_⟩;have:=g2.2 (h k x (ju _) hx);cases this
  |true=>
   rw[if_pos z?];have hg:=g2.1 rfl;obtain⟨t2,q1,q2⟩:=ih (k+1) o? (fun r z hr hz=>by
    by_cases c:r=k
    ·subst c
     rw[hx]at hz
     cases hz
     exact⟨hg.up.1,hg.up.2,hg.pre⟩
    exact hp r z o? hz)
   refine⟨t2,q1,q2.trans ⟨fun h r z hr hz=>?_,fun h r z hr hz=>h r z o? hz⟩⟩;by_cases c:r=k
   ·subst c;rw[hx]at hz;cases hz;exact hg
   exact h r z o? hz
theorem Nv(i:qu)(n:Int)(hl:i.stops.l.length<2^60): ∃t:Bool,sW i n=some t/\(t=true↔Vx i n):=by
 obtain⟨b,g1,g2⟩:=SM i.span n;obtain⟨t,q1,q2⟩:=LC i hl i.stops.l.length 0 o? (fun r x hr=>o?);rw[show ((0:Nat):Int)=0 from rfl]at q1;unfold sW;rw[g1];simp only[zP,qV];cases b with
 |false=>
  refine⟨false,rfl,fun h=>(by cases h),fun h=>?_⟩;have:=g2.2 h.Xk;cases this
 |true=>
  rw[if_neg z?,q1];refine⟨t,by cases t<;>rfl,q2.trans ⟨fun h=>?_,fun h r x _ hx=>?_⟩⟩
  ·exact⟨g2.1 rfl,fun k x hx=>(h k x o? hx).up,fun k x hx=>(h k x o? hx).le,fun k x hx hu=>by have:=(h k x o? hx).top hu;unfold xx at this;exact this,fun k x hx p y hp hy=>by have:=(h k x o? hx).nest p y hp hy;unfold xx at this;exact this,
    fun k x hx j y hj hy hu=>(h k x o? hx).Pb j y o? hj hy hu,fun k x hx q y hq hu hy=>(h k x o? hx).pre q y hq hu hy⟩
  exact⟨h.up r x hx,fun q y hq hu hy=>h.pre r x hx q y hq hu hy,h.le r x hx,fun hu=>h.top r x hx hu,fun p y hp hy=>h.nest r x hx p y hp hy,fun j y _ hj hy hu=>h.Pb r x hx j y hj hy hu⟩
end Xr
namespace Xr
def RZ(ss:List qc):Prop:= ∀(j:Nat) s,ss[j]? =some s->s.insts.l≠[]/\(0<j-> ∀p,ss[j-1]? =some p-> ∀x∈s.insts.l,eu x.span (vS p.cur p.insts.l))
structure D9 (st:qq):Prop where
 text:st.text.length<=65536
 sm:st.qf.l.length<=8
 ne:st.zC.l≠[]
 K6:st.zC.l.length<=64
 Jr:Zt st.text.length st.zC.l
 Yn:Yh st.zC.l
 may: ∀s∈st.qf.l,dv s.insts.l st.text.length
 Fz:RZ st.qf.l
theorem LF(l:Sl qm)(st:qq)(hl:l.l.length=st.zC.l.length)(Eb:l.l.length<2^60): ∀(d i:Nat),i+d=l.l.length-> ∃t:Bool,nu (l,(i:Int),st)=some (if t=true then .inr ()else .inl false)/\(t=true↔l.l.drop i=st.zC.l.drop i):=by intro d;induction d with|zero=>intro i h;rw[nu.eq_1,if_neg v?];refine⟨true,rfl,fun _=>?_,fun _=>rfl⟩;rw[e_ o?,e_ o?]|succ d ih=>(intro i h;obtain⟨x,hx⟩:=gl (l:=l.l) (k:=i) o?;obtain⟨y,hy⟩:=gl (l:=st.zC.l) (k:=i) o?;obtain⟨t,g1,g2⟩:=ih (i+1) o?;have ex:l.l.drop i=x::l.l.drop (i+1):=by have hk:=(qL hx).1;rw[Z! hk];rw[wK hk]at hx;cases hx;rfl);(have ey:st.zC.l.drop i=y::st.zC.l.drop (i+1):=by have hk:=(qL hy).1;rw[Z! hk];rw[wK hk]at hy;cases hy;rfl);rw[nu.eq_1,if_pos v?,gi hx,ws (k:=i) o?,ex,ey];simp only[zP,qV];rw[gi hy];simp only[qV,g1];cases x with|mk xa xh=>cases y with|mk ya yh=>by_cases c:xa=ya/\xh=yh;obtain⟨rfl,rfl⟩:=c;rw[if_neg z?];exact⟨t,rfl,g2.trans ⟨fun h=>by rw[h],fun h=>by simpa using h⟩⟩;rw[if_pos v?];refine⟨false,rfl,fun h=>(by cases h),fun h=>?_⟩;simp only[List.cons.injEq,qm.mk.injEq]at h;exact absurd h.1 c
def Qz(st:qq)(i:Nat)(is:List qu)(k:Nat)(x:qu):Prop:=
 Vx x st.text.length/\(0<k-> ∀y,is[k-1]? =some y->y.span.to<=x.span.qO)/\(0<i-> ∀p,st.qf.l[i-1]? =some p->eu x.span (vS p.cur p.insts.l))
theorem LH(st:qq)(Vs: ∀s∈st.qf.l,jH s)(Eb:st.qf.l.length<2^60)(i:Nat)(hi:i<st.qf.l.length)(is:Sl qu)(his:is.l.length<=2^12)(Wo: ∀x∈is.l,x.stops.l.length<=2^12):
  ∀(d k:Nat),k+d=is.l.length-> ∃t:Bool,kG ((i:Int),is,(k:Int),st)=some (if t=true then .inr ()else .inl false)/\(t=true↔ ∀(r:Nat) x,k<=r->is.l[r]? =some x->Qz st i is.l r x):=by
 intro d;induction d with
  |zero=>intro k h;rw[kG.eq_1,if_neg v?];exact⟨true,rfl,fun _ r x hr hx=>by have:=(qL hx).1;omega,fun _=>rfl⟩
  |succ d ih=>
   intro k h;obtain⟨x,hx⟩:=gl (l:=is.l) (k:=k) o?;obtain⟨t,g1,g2⟩:=ih (k+1) o?;have Ek:=Wo x (zc hx);obtain⟨b,m1,m2⟩:=Nv x (st.text.length:Int) o?;have split: ∀(P:Prop),(P↔Qz st i is.l k x)->((P/\ ∀(r:Nat) z,k+1<=r->is.l[r]? =some z->Qz st i is.l r z)↔ ∀(r:Nat) z,k<=r->is.l[r]? =some z->Qz st i is.l r z):=by intro P hP;rw[hP];constructor;intro h r z hr hz;by_cases c:r=k;subst c;rw[hx]at hz;cases hz;exact h.1;exact h.2 r z o? hz;exact fun h=>⟨h k x (ju _) hx,fun r z hr hz=>h r z o? hz⟩
   have tail: ∃q:Bool,(if (decide ((i:Int)>(0:Int)))=true then
      qh st.qf.l (q?.wrap ((i:Int)-(1:Int)))>>=fun Gp=>
      wJ Gp.cur Gp.insts>>=fun yA=>
      gY x.span yA>>=fun ax=>
      if(!ax)=true then some (.inl false)else kG ((i:Int),is,((k+1:Nat):Int),st)
     else kG ((i:Int),is,((k+1:Nat):Int),st))=some (if q=true then .inr ()else .inl false)/\
     (q=true↔(0<i-> ∀p,st.qf.l[i-1]? =some p->eu x.span (vS p.cur p.insts.l))/\t=true):=by
    by_cases c:0<i
    ·obtain⟨p,hp⟩:=gl (l:=st.qf.l) (k:=i-1) o?;have Fi:=Vs p (zc hp);have hsl:=Xc Fi p.cur;obtain⟨u,l1,l2⟩:=lies_ok x.span ⟨(vS p.cur p.insts.l).isEmpty,vS p.cur p.insts.l⟩ u?;rw[if_pos (by simpa using c),show q?.wrap ((i:Int)-1)=((i-1:Nat):Int)from by rw[qB o? o?];omega,gi hp];simp only[zP,qV];rw[Xd p.cur p.insts Fi.2 Fi.1];simp only[qV,l1];cases u with
     |false=>
      rw[if_pos z?];refine⟨false,rfl,fun h=>(by cases h),fun h=>?_⟩;have:=l2.2 (h.1 c p hp);cases this
     |true=>
      rw[if_neg z?,g1];refine⟨t,rfl,fun h=>⟨fun _ p' hp' =>?_,h⟩,fun h=>h.2⟩;rw[hp]at hp';cases hp';exact l2.1 rfl
    rw[if_neg (by simpa using c),g1];exact⟨t,rfl,fun h=>⟨fun h0=>absurd h0 c,h⟩,fun h=>h.2⟩
   obtain⟨q,q1,q2⟩:=tail;rw[kG.eq_1,if_pos v?,gi hx,ws (k:=k) o?];simp only[zP,qV,m1]at q1 |-;cases b with|false=>rw[if_pos z?];refine⟨false,rfl,fun h=>(by cases h),fun h=>?_⟩;have:=m2.2 (h k x (ju _) hx).1;cases this|true=>have hm:=m2.1 rfl;rw[if_neg z?];by_cases c:0<k;obtain⟨y,hy⟩:=gl (l:=is.l) (k:=k-1) o?;rw[if_pos (by simpa using c),show q?.wrap ((k:Int)-1)=((k-1:Nat):Int)from by rw[qB o? o?];omega,gi hy];simp only[qV];by_cases c2:x.span.qO<y.span.to;rw[if_pos (by simpa using c2)];refine⟨false,rfl,fun h=>(by cases h),fun h=>?_⟩;have:=(h k x (ju _) hx).2.1 c y hy;omega;rw[if_neg (by simpa using c2),q1];refine⟨q,rfl,q2.trans ?_⟩;rw[g2];refine split _ ⟨fun h=>⟨hm,fun _ z hz=>?_,h⟩,fun h=>h.2.2⟩;rw[hy]at hz;cases hz;omega;rw[if_neg (by simpa using c),q1];refine⟨q,rfl,q2.trans ?_⟩;rw[g2];exact split _ ⟨fun h=>⟨hm,fun h0=>absurd h0 c,h⟩,fun h=>h.2.2⟩
theorem CM{is:List qu}{n:Int}(h: ∀(k:Nat) x,is[k]? =some x->Vx x n/\(0<k-> ∀y,is[k-1]? =some y->y.span.to<=x.span.qO)):dv is n:=by
 have hc:=KW (is.map (·.span)) fun j p hp=>by rw[K?,yZ]at hp;obtain⟨x,hx,rfl⟩:=hp;refine⟨(h j x hx).1.Xk.2.1,fun y h0 hy=>?_⟩;rw[K?,yZ]at hy;obtain⟨z,hz,rfl⟩:=hy;exact(h j x hx).2 h0 z hz
 rw[q0j]at hc;refine⟨fun a i hi=>(h a i hi).1,fun a b i j eH hi hj=>?_⟩;have ha:=(qL hi).1;have hb:=(qL hj).1;have:=b!.1 hc a b ha hb eH;rw[wK ha]at hi;rw[wK hb]at hj;cases hi;cases hj;exact this
def Ip(st:qq)(i:Nat)(s:qc):Prop:=s.insts.l≠[]/\ ∀(r:Nat) x,s.insts.l[r]? =some x->Qz st i s.insts.l r x
theorem LG(st:qq)(Vs: ∀s∈st.qf.l,jH s)(Eb:st.qf.l.length<2^60): ∀(d i:Nat),i+d=st.qf.l.length-> ∃t:Bool,nv ((i:Int),st)=some (if t=true then .inr ()else .inl false)/\(t=true↔ ∀(r:Nat) s,i<=r->st.qf.l[r]? =some s->Ip st r s):=by intro d;induction d with|zero=>intro i h;rw[nv.eq_1,if_neg v?];exact⟨true,rfl,fun _ r s hr hs=>by have:=(qL hs).1;omega,fun _=>rfl⟩|succ d ih=>intro i h;obtain⟨s,hs⟩:=gl (l:=st.qf.l) (k:=i) o?;obtain⟨t,g1,g2⟩:=ih (i+1) o?;have Qu:=Vs s (zc hs);rw[nv.eq_1,if_pos v?,gi hs,ws (k:=i) o?];simp only[zP,qV];by_cases c:s.insts.l=[];rw[if_pos (by simp[c])];refine⟨false,rfl,fun h=>(by cases h),fun h=>?_⟩;exact absurd c (h i s (ju _) hs).1;obtain⟨u,u1,u2⟩:=LH st Vs Eb i o? s.insts Qu.1 Qu.2 s.insts.l.length 0 o?;rw[show ((0:Nat):Int)=0 from rfl]at u1;rw[if_neg (by simpa using c),u1];simp only[qV];cases u with|false=>refine⟨false,rfl,fun h=>(by cases h),fun h=>?_⟩;have:=u2.2 fun r x _ hx=>(h i s (ju _) hs).2 r x hx;cases this|true=>refine⟨t,g1,g2.trans ⟨fun h r z hr hz=>?_,fun h r z hr hz=>h r z o? hz⟩⟩;by_cases c2:r=i;subst c2;rw[hs]at hz;cases hz;exact⟨c,fun r x hx=>u2.1 rfl r x o? hx⟩;exact h r z o? hz
theorem WA(st:qq)(Vs: ∀s∈st.qf.l,jH s)(hq:st.zC.l.length<2^60): ∃t:Bool,jl st=some t/\(t=true↔D9 st):=by unfold jl;by_cases c:st.text.length<=65536/\st.qf.l.length<=8;rw[if_neg v?];obtain⟨q,co,n1,n2⟩:=SR (st.text.length:Int) st.zC hq;rw[n1];simp only[zP,qV];rcases n2 with ⟨rfl,n3,n4,n5,rfl⟩|⟨n3,rfl,n4⟩;have Wi:=Z5 _ _ n5;by_cases c2:(mh st.zC.l).length=st.zC.l.length;(rw[if_neg v?];obtain⟨t,g1,g2⟩:=LF ⟨(mh st.zC.l).isEmpty,mh st.zC.l⟩ st c2 u? _ 0 (O? _);rw[show ((0:Nat):Int)=0 from rfl]at g1;rw[g1];cases t with|false=>refine⟨false,rfl,fun h=>(by cases h),fun h=>?_⟩;have:=g2.2 (by simp only[V'];exact YU _ h.Yn);cases this|true=>have hid:=g2.1 rfl;simp only[V']at hid;obtain⟨u,u1,u2⟩:=LG st Vs o? _ 0 (O? _);rw[show ((0:Nat):Int)=0 from rfl]at u1;simp only[if_true,qV,u1];refine⟨u,by cases u<;>rfl,u2.trans ⟨fun h=>⟨c.1,c.2,n3,n4,n5,hid ▸ Wi.1,fun s hs=>?_,fun j s hs=>?_⟩,fun h r s _ hs=>?_⟩⟩;obtain⟨j,hj⟩:=jI hs;exact CM fun k x hx=>⟨((h j s o? hj).2 k x hx).1,((h j s o? hj).2 k x hx).2.1⟩;refine⟨(h j s o? hs).1,fun h0 p hp x hx=>?_⟩;obtain⟨k,hk⟩:=jI hx;exact((h j s o? hs).2 k x hk).2.2 h0 p hp;have hm:=h.may s (zc hs);have hl:=h.Fz r s hs;exact⟨hl.1,fun k x hx=>⟨hm.may k x hx,fun h0 y hy=>hm.Rk (k-1) k y x o? hy hx,fun h0 p hp=>hl.2 h0 p hp x (zc hx)⟩⟩);rw[if_pos (by simp only[j!,bne_iff_ne,ne_eq];omega)];refine⟨false,rfl,fun h=>(by cases h),fun h=>?_⟩;exact absurd (congrArg List.length (YU _ h.Yn)) c2;rw[if_pos (by simp[n3])];exact⟨false,rfl,fun h=>(by cases h),fun h=>absurd ⟨h.ne,h.K6,h.Jr⟩ n4⟩;rw[if_pos v?];exact⟨false,rfl,fun h=>(by cases h),fun h=>absurd ⟨h.text,h.sm⟩ c⟩
end Xr
namespace Xr
def zfl(i:qu):Sl Int:=⟨false,e? i.stops.l.length (0:Int)⟩
theorem BU(s:qc)(hs:jH s): ∀(r:List qu)(a:Nat)(out:List (Sl Int)),s.insts.l.drop a=r->out.length=a->wD ((a:Int),s,⟨out.isEmpty,out⟩)=some ⟨(out++r.map zfl).isEmpty,out++r.map zfl⟩:=by intro r;have mF:=hs.1;induction r with|nil=>intro a out h _;have:=zt h;rw[wD.eq_1,if_neg v?];simp|cons i r ih=>intro a out h ho;obtain⟨h1,h2,h3⟩:=zH h;have hi:=hs.2 i (zc h1);rw[wD.eq_1,if_pos v?,gi h1,ws (k:=a) o?];simp only[zP,qV];rw[if_pos o?,if_pos qH,if_pos qH];have:=ih (a+1) (out++[zfl i]) h2 v?;rw[show (out++[zfl i]).isEmpty=false from z?]at this;simp only[zfl,X?]at this |-;rw[this];simp[zfl]
theorem Jh(s:qc)(hs:jH s): ∃f,bH s=some f/\dc s.insts.l f:=by refine⟨⟨(s.insts.l.map zfl).isEmpty,s.insts.l.map zfl⟩, ?_,z?,z?,fun a i f hi hf=>?_⟩;unfold bH;have:=BU s hs s.insts.l 0 [] rfl rfl;exact tW;simp only[K?,hi,D!,wd]at hf;subst hf;refine⟨by simp[zfl],fun _=>rfl,fun v hv=>?_⟩;have:=(List.mem_replicate.1 hv).2;omega
theorem IY(st:qq)(hs: ∀s∈st.qf.l,jH s)(Sj:st.qf.l.length<=16)(q:List qm)(ss:List qc)(w:qa): ∀(r:List qc)(i:Nat)(out:List (Sl (Sl Int))),st.qf.l.drop i=r->out.length=i->
  ∃fs:List (Sl (Sl Int)),uG ((i:Int),st,q,ss,w,⟨out.isEmpty,out⟩)=some ⟨(out++fs).isEmpty,out++fs⟩/\fs.length=r.length/\ ∀(j:Nat) s f,r[j]? =some s->fs[j]? =some f->dc s.insts.l f:=by intro r;induction r with|nil=>intro i out h _;have:=zt h;rw[uG.eq_1,if_neg v?];exact⟨[],z?,rfl,fun j s f hs=>by simp at hs⟩|cons s r ih=>intro i out h ho;obtain⟨h1,h2,h3⟩:=zH h;obtain⟨f,f1,f2⟩:=Jh s (hs s (zc h1));rw[uG.eq_1,if_pos v?,gi h1,ws (k:=i) o?];simp only[zP,qV,f1];rw[if_pos qH];obtain⟨fs,g1,g2,g3⟩:=ih (i+1) (out++[f]) h2 v?;rw[show (out++[f]).isEmpty=false from z?]at g1;refine⟨f::fs, ?_,by simp[g2],fun j s' f' oM Hf=>?_⟩;rw[show (⟨f.nil,f.l⟩:Sl (Sl Int))=f from rfl,g1];simp;cases j with|zero=>simp only[a?,wd]at oM Hf;subst oM Hf;exact f2|succ j=>exact g3 j s' f' (by simpa using oM) (by simpa using Hf)
structure yw (st:qq):Prop where
 may:D9 st
 small: ∀s∈st.qf.l,jH s
 stop: ∀s∈st.qf.l,∀ i∈s.insts.l,∀ x∈i.stops.l,pL x
 KZ: ∀s∈st.qf.l,vS s.cur s.insts.l≠[]
 qn:st.zC.nil=false
theorem Bv(st:qq)(h:yw st): ∃fl,ri st=some (st.text,⟨false,st.zC.l⟩,st.qf.l,fl)/\WK (st.text,⟨false,st.zC.l⟩,st.qf.l,fl):=by have h8:=h.may.sm;have h64:=h.may.K6;have ht:=h.may.text;obtain⟨fs,g1,g2,g3⟩:=IY st h.small o? st.zC.l st.qf.l st.text st.qf.l 0 [] rfl rfl;rw[show ((0:Nat):Int)=0 from rfl]at g1;simp only[List.isEmpty_nil,L?]at g1;refine⟨⟨fs.isEmpty,fs⟩, ?_,⟨⟨u?,h.may.ne,rfl,h64,h.may.Yn,h.may.Jr,u?,h.small,h.may.may,g2,fun c=>?_,g3,h.stop⟩,ht⟩⟩;unfold ri;rw[if_pos qH,if_pos qH,g1];rfl;exact tW
theorem sum_fit{n:Nat}{es:List qz}(hn:n<=65536)(hl:es.length<=2^19)(h:Kb n es)(h2:(n:Int)+si es<=65536):vh es<=2^36:=by have h3:=sumT_sp o? es h.Jr;have h4:es.length*n<=2^19*65536:=H_ hl hn;exact tW
def Less(st st' :qq):Prop:=Curs st.qf.l st'.qf.l
theorem BL(st:qq)(h:yw st)(es:Sl qz)(hl:es.l.length<=2^19)(hT:vh es.l<=2^60):qM (rY st es) (fun v=>v.2≠0\/v.2=0/\yw v.1/\Less st v.1):=by
 have ht:=h.may.text;have h8:=h.may.sm;obtain⟨t,m1,m2⟩:=WA st h.small (by have:=h.may.K6;omega);obtain rfl:=m2.2 h.may;unfold rY;refine .go m1 ?_;rw[if_neg z?];refine .bind (SN (st.text.length:Int) o? es hl hT) fun c hc=>?_;refine .ite (fun c0=> .ret (.inl (by simpa using c0))) fun c0=>?_;obtain⟨e1,e2⟩:=hc (by simpa using c0);have hT2:vh es.l<=2^36:=sum_fit ht hl e1 e2;obtain⟨fl,b1,b2⟩:=Bv st h;refine .go b1 ?_;refine .bind (cG (st.text,⟨false,st.zC.l⟩,st.qf.l,fl) b2.ok ht es e1 hT2 hl) fun w hw=>?_;have hwt:=hw.text;refine .bind (WE w ⟨hw.ok,by simp only at hwt;omega⟩) fun u hu=>?_;refine .ite (fun c1=> .ret (.inl (by simpa using c1))) fun c1=>?_;rcases hu with hu|⟨_,hu,hlk⟩;exact absurd (by simpa using c1) hu;have ZI: ∀y,Fin u.2.1.length u.2.2.2.1 y->yw ⟨u.2.1,u.2.2.1,⟨false,y⟩⟩/\Less st ⟨u.2.1,u.2.2.1,⟨false,y⟩⟩:=by intro y hy;have Fa:=hlk.len;have hwl:=hw.len;have Xi:=hy.KZ.1;simp only at Fa hwl Xi;refine⟨⟨⟨hu.text,u?,hu.ok.ne,hu.ok.K6,hu.ok.Jr,hu.ok.Yn,hy.ok.may,fun j s hs=>?_⟩,hy.ok.small,hy.ok.stop,fun s hs=>?_,hu.ok.qn⟩,⟨u?,fun j s' oM=>?_⟩⟩;have:=hy.closed j s (qL hs).1 hs;exact⟨this.1,this.2.2⟩;obtain⟨j,hj⟩:=jI hs;exact(hy.closed j s (qL hj).1 hj).2.1;obtain⟨s2,k1,k2⟩:=hy.KZ.2 j s' oM;obtain⟨s1,k3⟩:=gl (l:=w.2.2.1) (k:=j) (by have h9:j<u.2.2.2.1.length:=(qL k1).1;omega);obtain⟨s3,k4,k5⟩:=hlk.cur j s1 k3;have k1' :u.2.2.2.1[j]? =some s2:=k1;have k4' :u.2.2.2.1[j]? =some s3:=k4;rw[k1']at k4';cases k4';obtain⟨s0,k6,k7⟩:=hw.cur j s1 k3;exact⟨s0,k6,k2.trans (k5.trans k7)⟩
 refine .bind (Yq u.2 hu.ok) fun v hv=>?_;rcases v with y|y;exact .ret (.inr ⟨rfl,ZI y hv⟩);exact .ret (.inr ⟨rfl,ZI y hv⟩)
end Xr
namespace Xr
theorem wi{n:Int}(h: -9223372036854775808<=n:=by omega)(h2:n<=9223372036854775807:=by omega):IntKind.i64.wrap n=n:=qB h h2
def isB(b:UInt8):Bool:=(b.toNat:Int)==10
def Kc(s:qa):Nat:=s.countP isB
theorem PE(s:qa):Kc s<=s.length:=List.countP_le_length
theorem O0(b:UInt8)(s:qa):(Kc (b::s):Int)=Kc s+if isB b=true then 1 else 0:=by unfold Kc;rw[C!];split<;>simp
structure S1 (i:Nat) (t:z8):Prop where
 a:0<=t.bytes/\t.bytes<=i
 b:0<=t.breaks/\t.breaks<=i
 c:0<=t.an/\t.an<=i
 d:0<=t.du/\t.du<=2*i
theorem of_L0(s:qa)(hs:s.length<=2^40)(t2:z8): ∀(r:qa)(i:Nat)(t:z8),s.drop i=r->i+r.length=s.length->S1 i t->
  qM (wE (s,(i:Int),t2,t)) (fun v=>v.breaks=t.breaks+Kc r/\S1 s.length v):=by intro r;induction r with|nil=>intro i t h hi ht;have:=zt h;rw[wE.eq_1,if_neg v?];simp only[f?,Nat.add_zero]at hi;exact .ret ⟨by simp[Kc],hi ▸ ht⟩|cons b r ih=>intro i t h hi ht;simp only[b?]at hi;obtain⟨h1,h2,h3⟩:=zH h;have⟨p1,p2⟩:=ht.a;have⟨p3,p4⟩:=ht.b;have⟨p5,p6⟩:=ht.c;have⟨p7,p8⟩:=ht.d;rw[wE.eq_1,if_pos v?,ws o?];refine .go (gi h1) ?_;rw[wi (n:=t.bytes+1),wi (n:=t.breaks+1),wi (n:=t.an+1),wi (n:=t.du+1),wi (n:=t.du+1+1)];have hb:=O0 b r;refine .ite (fun c=>?_) fun c=>?_;{rw[if_pos (show isB b=true from c)]at hb;refine .bind (Go.Proofs.YtnfdnckadgcifaaGreat.cG b) fun v _=>?_;refine .ite (fun _=>x_ (fun _=>?_) fun _=>?_) fun _=>x_ (fun _=>?_) fun _=>?_;all_goals exact .mono (ih (i+1) _ h2 (by omega) ⟨by simp only;omega,by simp only;omega,by simp only;omega,by simp only;omega⟩) fun v hv=>⟨by have:=hv.1;simp only at this;omega,hv.2⟩};rw[if_neg (show ¬isB b=true by unfold isB;simp[c])]at hb;refine .bind (Go.Proofs.YtnfdnckadgcifaaGreat.cG b) fun v _=>?_;refine .ite (fun _=>x_ (fun _=>?_) fun _=>?_) fun _=>x_ (fun _=>?_) fun _=>?_;all_goals exact .mono (ih (i+1) _ h2 (by omega) ⟨by simp only;omega,by simp only;omega,by simp only;omega,by simp only;omega⟩) fun v hv=>⟨by have:=hv.1;simp only at this;omega,hv.2⟩
theorem XV(s:qa)(hs:s.length<=2^40):qM (ov s) (fun v=>v.breaks=Kc s/\S1 s.length v):=by unfold ov;refine .bind (of_L0 s hs _ s 0 ⟨0,0,0,0⟩ rfl z? ⟨z?,z?,z?,z?⟩) fun v hv=>?_;exact .ret ⟨by have:=hv.1;simp only at this;omega,hv.2⟩
theorem O1(t:z8)(n:Nat)(h:S1 n t):qM (bx t 1) (fun v=>0<=v/\v<=n):=by unfold bx;rw[if_neg (by decide),if_pos (by decide)];exact .ret h.c
theorem PB(s:qa)(hs:s.length<=2^40)(off:Int):qM (dB s off) (fun v=>(v.2=0/\0<=off/\off<=s.length/\v.1=Kc (s.take off.toNat))\/(v.2≠0/\v.1=0/\ ¬(0<=off/\off<=s.length))):=by unfold dB;refine .ite (fun c=> .ret (.inr ⟨by decide,rfl, ?_⟩)) fun c=>?_;simp only[j!,decide_eq_true_eq]at c;omega;simp only[j!,decide_eq_true_eq,not_or]at c;refine .bind .we fun r hr=>?_;obtain⟨rfl,h2⟩:=hr;refine .bind (XV _ (by rw[A_];omega)) fun v hv=>?_;exact .ret (.inl ⟨rfl,o?,o?,hv.1⟩)
def JE:qa->Nat->List Int
 |[],_=>[]
 |b::r,i=>if isB b=true then((i+1:Nat):Int)::JE r (i+1)else JE r (i+1)
theorem AN(s:qa)(hs:s.length<=2^28): ∀(r:qa)(i:Nat)(l:List Int),s.drop i=r->l.length<=i+1->vR (s,(i:Int),l)=some (l++JE r i):=by intro r;induction r with|nil=>intro i l h _;have:=zt h;rw[vR.eq_1,if_neg v?];simp[JE]|cons b r ih=>intro i l h hl;obtain⟨h1,h2,h3⟩:=zH h;rw[vR.eq_1,if_pos v?,gi h1,ws o?];simp only[zP,qV];by_cases c:isB b=true;rw[if_pos (show ((b.toNat:Int)==10)=true from c),if_pos qH,ih (i+1) _ h2 v?];simp[JE,c];rw[if_neg (show ¬((b.toNat:Int)==10)=true from c),ih (i+1) _ h2 o?];simp[JE,c]
theorem Uz(s:qa)(hs:s.length<=2^28):mS s=some ⟨false,0::JE s 0⟩:=by unfold mS;rw[show (0:Int)=((0:Nat):Int)from rfl,AN s hs s 0 _ rfl z?];simp
theorem st4_len: ∀(r:qa)(i:Nat),(JE r i).length=Kc r:=by intro r;induction r with|nil=>intro i;rfl|cons b r ih=>intro i;simp only[JE,Kc,C!];split;simp only[b?,ih];rfl;simp only[ih];rfl
theorem Ry: ∀(r:qa)(i:Nat),∀ x∈JE r i,(i:Int)<x/\x<=i+r.length:=by intro r;induction r with|nil=>intro i x h;simp[JE]at h|cons b r ih=>intro i x h;simp only[JE]at h;simp only[b?];split at h;rcases U?.1 h with rfl|h;omega;have:=ih (i+1) x h;omega;have:=ih (i+1) x h;omega
theorem st4_pair: ∀(r:qa)(i:Nat),(JE r i).Pairwise (· < ·):=by intro r;induction r with|nil=>intro i;simp[JE]|cons b r ih=>intro i;simp only[JE];split;refine w!.2 ⟨fun x hx=>?_,ih (i+1)⟩;have:=Ry r (i+1) x hx;omega;exact ih (i+1)
theorem st4_at: ∀(r:qa)(i n k:Nat)(x:Int),k<Kc (r.take n)->(JE r i)[k]? =some x->x<=i+n:=by intro r;induction r with|nil=>intro i n k x h;simp[Kc]at h|cons b r ih=>intro i n k x h hx;cases n with|zero=>simp[Kc]at h|succ n=>simp only[JE]at hx;simp only[List.take_succ_cons,Kc,C!]at h;split at hx;(rename_i c;rw[if_pos c]at h;cases k with|zero=>simp only[a?,wd]at hx;omega|succ k=>have:=ih (i+1) n k x (by unfold Kc;omega) (by simpa using hx);omega);rename_i c;rw[if_neg c]at h;have:=ih (i+1) n k x (by unfold Kc;omega) hx;omega
theorem Ti(s:qa):(0::JE s 0).Pairwise (fun a b:Int=>a<b):=w!.2 ⟨fun x hx=>by have:=Ry s 0 x hx;omega,st4_pair s 0⟩
theorem Ns(s:qa): ∀x∈(0::JE s 0:List Int),0<=x/\x<=s.length:=by intro x hx;rcases U?.1 hx with rfl|hx;omega;have:=Ry s 0 x hx;omega
theorem Q6(s:qa)(hs:s.length<=2^28)(line:Int): ∃a b c:Int,uN s line=some (a,c)/\sa s line=some (b,c)/\0<=a/\a<=b/\b<=s.length/\
  (0<=line->line<=Kc s->c=0)/\(∀ n:Nat,line=Kc (s.take n)->a<=n):=by
 have hbl:=PE s;have hL:((0::JE s 0:List Int).length:Int)=Kc s+1:=by simp[st4_len]
 unfold uN sa;rw[Uz s hs];simp only[zP,qV];by_cases c:0<=line/\line<Kc s+1;(obtain⟨k,rfl⟩: ∃k:Nat,line=k:=⟨line.toNat,o?⟩;obtain⟨x,hx⟩:=gl (l:=(0::JE s 0:List Int)) (k:=k) o?;have hxi:=Ns s x (zc hx);have F4: ∀n:Nat,(k:Int)=Kc (s.take n)->x<=n:=by intro n hn;cases k with|zero=>simp only[a?,wd]at hx;omega|succ k=>have:=st4_at s 0 n k x o? (by simpa using hx);omega);(have e1:(decide ((k:Int)<0) || decide ((k:Int)>=((0::JE s 0:List Int).length:Int)))=false:=by simp only[Bool.or_eq_false_iff,decide_eq_false_iff_not];omega);rw[e1];simp only[wH,if_false];rw[gi hx,ws o?];simp only[qV];by_cases c2:k+1<(0::JE s 0:List Int).length;(obtain⟨y,hy⟩:=gl (l:=(0::JE s 0:List Int)) (k:=k+1) c2;have hyi:=Ns s y (zc hy);have xS:x<y:=by obtain⟨h1,h1'⟩:=qL hx;obtain⟨h2,h2'⟩:=qL hy;have:=b!.1 (Ti s) k (k+1) h1 h2 o?;rw[h1',h2']at this;exact this);rw[if_pos (by simp only[decide_eq_true_eq];omega),gi hy];simp only[qV];rw[wi (n:=y-1)];exact⟨x,y-1,0,rfl,rfl,hxi.1,o?,o?,fun _ _=>rfl,F4⟩;rw[if_neg (by simp only[decide_eq_true_eq];omega)];exact⟨x,s.length,0,rfl,rfl,hxi.1,o?,o?,fun _ _=>rfl,F4⟩;have e1:(decide (line<0) || decide (line>=((0::JE s 0:List Int).length:Int)))=true:=by simp only[j!,decide_eq_true_eq];omega
 rw[e1];simp only[if_true];exact⟨0,0,3,rfl,rfl,o?,o?,o?,fun h1 h2=>o?,fun n hn=>o?⟩
theorem Vi(s:qa)(n:Nat):Kc (s.take n)<=Kc s:=List.Sublist.countP_le (List.take_sublist n s)
theorem FM(s:qa)(hs:s.length<=2^28)(off:Int)(h0:0<=off)(h1:off<=s.length):qM (fY s off 1) (fun v=>v.1=Kc (s.take off.toNat)/\0<=v.2.1):=by unfold fY;refine .go (a:=true) (by unfold dN;simp) ?_;rw[if_neg z?];refine .bind (PB s o? off) fun v hv=>?_;rcases hv with ⟨e,_,_,hv⟩|⟨_,_,hv⟩;rotate_left;exact absurd ⟨h0,h1⟩ hv;rw[if_neg (by simp[e])];have hb:=Vi s off.toNat;obtain⟨a,b,c,g1,_,g3,_,_,g4,g5⟩:=Q6 s hs v.1;refine .go g1 ?_;have:=g5 off.toNat hv;refine .bind (q0r o? u? o?) fun r hr=>?_;have Sx:=hr.2;refine .bind (XV r (by simp only at Sx;omega)) fun w hw=>?_;refine .bind (O1 w _ hw.2) fun u hu=>?_;exact .ret ⟨hv,hu.1⟩
theorem upto_tot(s:qa)(hs:s.length<=2^28)(n:Int)(hn:0<=n):qM (iC s 1 n) (fun v=>0<=v/\v<=s.length):=by
 have loop: ∀(d k:Nat)(many:Int),k+d=s.length->0<=many->many<=k->qM (nA (s,1,n,many,(k:Int))) (fun v=>match v with| .inl y=>0<=y/\y<=s.length| .inr _=>True):=by intro d;induction d with|zero=>intro k many h _ _;rw[nA.eq_1,if_neg v?];exact .ret trivial|succ d ih=>intro k many h m0 m1;rw[nA.eq_1,if_pos v?,ws o?];refine .bind .kH fun r hr=>?_;have Sx:=hr.2;refine .bind (XV r o?) fun w hw=>?_;refine .bind (O1 w _ hw.2) fun u hu=>?_;rw[wi (n:=many+u)];refine .ite (fun _=> .ret ⟨o?,o?⟩) fun _=>ih (k+1) _ o? o? o?
 unfold iC;rw[if_neg v?];refine .bind (loop s.length 0 0 o? o? o?) fun v hv=>?_;rcases v with v|v;exact .ret hv;exact .ret ⟨o?,o?⟩
theorem WJ(s:qa)(hs:s.length<=2^28)(line col:Int)(hc:0<=col):qM (rk s line col 1) (fun v=>0<=v.1/\v.1<=s.length):=by unfold rk;refine .go (a:=true) (by unfold dN;simp) ?_;rw[if_neg z?];obtain⟨a,b,c,g1,g2,g3,g4,g5,_⟩:=Q6 s hs line;refine .go g1 ?_;refine .ite (fun _=> .ret ⟨u?,u?⟩) fun _=>?_;refine .go g2 ?_;refine .bind (q0r u? u? u?) fun r hr=>?_;have Sx:=hr.2;simp only at Sx |-;refine .bind (upto_tot r o? col hc) fun u hu=>?_;rw[wi (n:=a+u)];exact .ret ⟨u?,u?⟩
end Xr
end Go.Proofs.YtnfdnckadgcifaaGreat
