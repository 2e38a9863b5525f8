/-
  The document's lines: where they begin and end; bytes counted.
-/
import Derived.Test.YtmllebdamdnhoaaGreatAan
import Derived.Test.YtmllebdamdnhoaaGreatAam
set_option linter.unusedSimpArgs false
set_option linter.unusedVariables false
set_option maxHeartbeats 1000000
namespace Go.Proofs.YtmllebdamdnhoaaGreat
open Go Go.Gm
theorem KE(c:UInt8):qG (cW c) (fun _=>True):=by
 unfold cW;refine .tI ?_ ?_<;>intro hT
 ·exact .ret trivial
 exact .ret trivial
theorem Jo(c:UInt8):qG (ri c) (fun _=>True):=by
 unfold ri;refine .tI ?_ ?_<;>intro hT
 ·exact .ret trivial
 exact .ret trivial
theorem Tr(c:UInt8): ∃v,cV c=some v:=by
 unfold cV sS
 repeat' split
 all_goals first|exact⟨_,rfl⟩|(simp only[xe,z7];split<;>exact⟨_,rfl⟩)
theorem Dt: ∀(m:Nat)(i:Int)(b:List UInt8),m=(b.length-i).toNat->0<=i->b.length<=1099511627776->qG (bR (i,b)) (fun r=>r.length=b.length):=by
 intro m;induction m using Nat.strongRecOn with
 |_ m ih=>
 intro i b hm h0 hB;rw[bR.eq_1];refine .tI ?_ ?_<;>intro hT
 ·refine .bind .get fun c hc=>?_;refine .bind (KE c) fun v _=>?_
  (repeat (first|(rw [qI];rotate_left;omega;omega)|(rw [xp];rotate_left;omega;omega)))
  exact(ih _ (by simp;omega) (i+1) _ rfl (by omega) (by simpa using hB)).mono fun r hr=>by simpa using hr
 exact .ret rfl
theorem Du: ∀(m:Nat)(i:Int)(b:List UInt8),m=(b.length-i).toNat->0<=i->b.length<=1099511627776->qG (bS (i,b)) (fun r=>r.length=b.length):=by
 intro m;induction m using Nat.strongRecOn with
 |_ m ih=>
 intro i b hm h0 hB;rw[bS.eq_1];refine .tI ?_ ?_<;>intro hT
 ·refine .bind .get fun c hc=>?_;refine .bind (Jo c) fun v _=>?_
  (repeat (first|(rw [qI];rotate_left;omega;omega)|(rw [xp];rotate_left;omega;omega)))
  exact(ih _ (by simp;omega) (i+1) _ rfl (by omega) (by simpa using hB)).mono fun r hr=>by simpa using hr
 exact .ret rfl
def dJ(s:qa):Nat:=s.length
theorem YA: ∀(l:List qa),(∀ w∈l,1<=w.length)->l.length<=qK (l.map dJ)
 |[],_=>by simp
 |a::l,h=>by
  have h1:=h a (by simp);have h2:=YA l fun w hw=>h w (by simp[hw]);simp only[List.map_cons,qK,List.length_cons,dJ]at*
  omega
theorem Lj(s:qa)(hs:s.length<=1048576): ∀(r:qa)(k:Nat)(l:List qa),s.drop k=r->k<=s.length->(∀ w∈l,1<=w.length)->qK (l.map dJ)<=k->(0<k-> ∀b,s[k-1]? =some b->cV b=some true->0<l.length)->
  qG (jl (s,(k:Int),l)) (fun r=>(∀ w∈r,1<=w.length)/\qK (r.map dJ)<=s.length):=by
 intro r;induction r with
 |nil=>
  intro k l hk G3 h1 h2 h3;rw[jl.eq_1,if_neg (by simpa using vH hk)];exact .ret ⟨h1,by omega⟩
 |cons b r ih=>
  intro k l hk G3 h1 h2 h3;obtain⟨a1,a2,a3,a4⟩:=wv hk;obtain⟨b1,b2,b3⟩:=drop_cons hk;have hl:=YA l h1;have e1:IntKind.i64.wrap ((k:Int)+1)=((k+1:Nat):Int):=i9 (by omega) a1;have put: ∀(l:List qa),0<l.length->l.length<=k+1->(∀ i w,l[i]? =some w->i+1<l.length->1<=w.length)->qK (l.map dJ)<=k-> ∀{f:qa->qa->Option (List qa)},(∀ x y,f x y=if x.length+y.length<=2^62 then jl (s,IntKind.i64.wrap ((k:Int)+1),l.set ((IntKind.i64.wrap ((l.length:Int)-1)).toNat) (x++y))else none)->
    qG (qi l (IntKind.i64.wrap ((l.length:Int)-1))>>=fun x=>kb s (k:Int) (IntKind.i64.wrap ((k:Int)+1))>>=fun y=>f x y) (fun r=>(∀ w∈r,1<=w.length)/\qK (r.map dJ)<=s.length):=by
   intro l hl0 hlk h4 h5 f hf;have e2:IntKind.i64.wrap ((l.length:Int)-1)=((l.length-1:Nat):Int):=by rw[wr (by omega) (by omega)];omega
   rw[e2,e1];refine .bind .get fun x hx=>?_;have hxl:x.length<=qK (l.map dJ):=xA (f:=dJ) hx.2;refine .bind .kb fun y hy=>?_;rw[hf];refine .zm (by omega) ?_;have Es:y.length=1:=by omega
   have C2:l[l.length-1]? =some x:=by simpa using hx.1
   have hsum:=iZ dJ l (l.length-1) (x++y) x C2;rw[e2,Int.toNat_natCast,e1];have hlen:dJ (x++y)=dJ x+1:=by simp[dJ,Es]
   refine ih (k+1) _ a3 (by omega) ?_ (by omega) (fun _ _ _ _=>by simpa using hl0);intro w hw;obtain⟨i,hi⟩:=jz hw;rw[List.getElem?_set]at hi;split at hi
   ·split at hi
    ·cases hi;simp[Es]
    cases hi
   rename_i jv;have:=(qF hi).1;exact h4 i w hi (by omega)
  obtain⟨v,hv⟩:=Tr b;rw[jl.eq_1,if_pos (by simpa using a1)];refine .go a2 ?_;refine .go hv ?_;have hnew: ∀i w,(l++[([]:qa)])[i]? =some w->i+1<(l++[([]:qa)]).length->1<=w.length:=by
   intro i w hi xB;simp only[List.length_append,List.length_cons,List.length_nil]at xB;rw[List.getElem?_append_left (by omega)]at hi;exact h1 w (qX hi)
  have SU:qK ((l++[([]:qa)]).map dJ)<=k:=by rw[jS];simp only[dJ,List.length_nil];omega
  have wV:qg (l.length+1) 16=true:=by simp only[qg,zB,decide_eq_true_eq];omega
  refine .tI ?_ ?_<;>intro hT
  ·rw[e1];refine ih (k+1) l a3 (by omega) h1 (by omega) (fun _ c hc Yp=>?_);simp only[Nat.add_sub_cancel]at hc;rw[b1]at hc;cases hc;rw[hv]at Yp;cases Yp;exact absurd hT (by simp)
  refine .tI ?_ ?_<;>intro hT
  ·exact .zm wV (put _ (by simp) (by simp;omega) hnew SU fun _ _=>rfl)
  have hk0:0<k:=by omega
  have e3:IntKind.i64.wrap ((k:Int)-1)=((k-1:Nat):Int):=by rw[wr (by omega) (by omega)];omega
  rw[e3];refine .bind .get fun c hc=>?_;obtain⟨w,hw⟩:=Tr c;refine .go hw ?_;refine .tI ?_ ?_<;>intro hT
  ·exact .zm wV (put _ (by simp) (by simp;omega) hnew SU fun _ _=>rfl)
  refine put l (h3 hk0 c (by simpa using hc.1) ?_) (by omega) (fun i w hi _=>h1 w (qX hi)) h2 fun _ _=>rfl;rw[hw,hT]
theorem Dx(s:qa)(hs:s.length<=1048576):qG (sa s) (fun r=>(∀ w∈r.l,1<=w.length)/\qK (r.l.map dJ)<=s.length):=by
 unfold sa;exact .bind (Lj s hs s 0 [] rfl (by omega) (by simp) (by simp[qK]) (fun h=>by omega)) fun v hv=> .ret hv
theorem Dv(w7:Int)(ws:Sl qa)(r0:List UInt8)(hw: ∀w∈ws.l,1<=w.length)(hs:qK (ws.l.map dJ)<=1048576): ∀(r:List qa)(k:Nat)(out:qa),ws.l.drop k=r->out.length+qK (r.map dJ)<=qK (ws.l.map dJ)->
  qG (vY (w7,ws,out,(k:Int),r0)) (fun t=>t.length<=qK (ws.l.map dJ)):=by
 have hl:=YA ws.l hw;intro r;induction r with
 |nil=>
  intro k out hk ho;rw[vY.eq_1,if_neg (by simpa using vH hk)];simp only[List.map_nil,qK]at ho;exact .ret (by omega)
 |cons x r ih=>
  intro k out hk ho;obtain⟨a1,a2,a3,a4⟩:=wv hk;simp only[List.map_cons,qK,dJ]at ho;have hx:=hw x a4;rw[vY.eq_1,if_pos (by simpa using a1),i9 (by omega) a1];refine .go a2 ?_;refine .tI ?_ ?_<;>intro hT
  ·refine .bind .get fun c _=>?_;refine .bind (Jo c) fun v _=>?_;refine .zm (by simp;omega) ?_;exact ih (k+1) _ a3 (by simp[dJ];omega)
  refine .bind .get fun c _=>?_;refine .bind (KE c) fun v _=>?_;refine .zm (by simp;omega) ?_;exact ih (k+1) _ a3 (by simp[dJ];omega)
theorem KD(s:qa)(hs:s.length<=1048576)(w7:Int):qG (rh s w7) (fun r=>r.1.length<=s.length):=by
 unfold rh;refine .tI ?_ ?_<;>intro hT
 ·exact .bind (Dt _ 0 s rfl (by omega) (by omega)) fun v hv=> .ret (by simp only;omega)
 refine .tI ?_ ?_<;>intro hT
 ·exact .bind (Du _ 0 s rfl (by omega) (by omega)) fun v hv=> .ret (by simp only;omega)
 refine .tI ?_ ?_<;>intro hT
 ·refine .tI ?_ ?_<;>intro hT
  ·refine .bind .get fun c _=>?_;refine .bind (KE c) fun v _=>?_;exact .ret (by simp)
  exact .ret (by simp)
 refine .tI ?_ ?_<;>intro hT
 ·refine .bind (Dx s hs) fun w hw=>?_;refine .bind (Dv w7 w s hw.1 (by omega) w.l 0 [] rfl (by simp)) fun v hv=>?_;exact .ret (by simp only;omega)
 exact .ret (by simp)
theorem Hu(fs:Sl zl)(hf:qK (fs.l.map ei)<=1000000000)(parts:Sl qa)(hp: ∀p∈parts.l,p.length<=1048576):qG (sb fs parts) (fun r=>r.length<=1048576*qK (fs.l.map ei)):=by
 have hl:=xg XB fs.l;unfold sb;refine .bind (V9 fs (by omega)) fun v hv=>?_;refine .tI ?_ ?_<;>intro hT
 ·exact .ret (by simp)
 have hn:=hv hT;have key: ∀(r:List zl)(k:Nat)(s:qa),fs.l.drop k=r->s.length+1048576*qK (r.map ei)<=1048576*qK (fs.l.map ei)->qG (zh (fs,parts,s,(k:Int))) (fun r=>r.length<=1048576*qK (fs.l.map ei)):=by
  intro r;induction r with
  |nil=>
   intro k s hk hs;rw[zh.eq_1,if_neg (by simpa using vH hk)];exact .ret (by omega)
  |cons f r ih=>
   intro k s hk hs;obtain⟨a1,a2,a3,a4⟩:=wv hk;simp only[List.map_cons,qK]at hs;have hfw:ei f=1+f.i7.length+f.oH.length:=rfl;have hfn:=hn f a4;have next: ∀t:qa,t.length<=1048576*ei f->qG (if s.length+t.length<=2^62 then zh (fs,parts,(s++t),((k+1:Nat):Int))else none) (fun r=>r.length<=1048576*qK (fs.l.map ei)):=by
    intro t ht;refine .zm (by omega) (ih (k+1) _ a3 ?_);simp only[List.length_append];omega
   have h1:=next f.i7 (by omega)
   have h2:=next f.oH (by omega)
   have h3:=next [] (by simp)
   rw[zh.eq_1,if_pos (by simpa using a1),i9 (by omega) a1];refine .go a2 ?_;refine .ite (fun hc=>?_) fun hc=>?_
   ·simp only[decide_eq_true_eq]at hc;refine .bind (qG.get hfn hc) fun p hpp=>?_;have sH:=hp p hpp.2;have h4:=next p (by omega)
    repeat' (first|exact h1|exact h2|exact h4|(refine .bind (KD p sH _) fun v hv=>?_;exact next v.1 (by omega))|refine .ite (fun _=>?_) (fun _=>?_))
   repeat' (first|exact h1|exact h2|exact h3|(refine .bind (KD [] (by simp) _) fun v hv=>?_;exact next v.1 (by simp only[List.length_nil]at hv;omega))|refine .ite (fun _=>?_) (fun _=>?_))
 exact .bind (key fs.l 0 [] rfl (by simp)) fun v hv=> .ret hv
theorem Vq(f:zf)(hf:vW f<=1000000000)(s:qa)(hs:s.length<=1048576)(g:Nat)(hg:g<=1000000000)(m:qh)(h0:0<=m.span.qO)(h1:m.span.qO<=m.span.to)(h2:m.span.to<=s.length)(hp:nH s g m.parts):
  qG (ch f s m) (fun r=>r.length<=1048576*1000000000):=by
 have sH:=hp.len;have hfw:vW f=tn f.rx+qK (f.uz.l.map ei):=rfl;have key: ∀(r:List ql)(k:Nat)(ps:List qa),m.parts.l.drop k=r->ps.length=k+1->(∀ p∈ps,p.length<=1048576)->qG (uj (s,(k:Int),f,m,ps)) (fun r=> ∀p∈r,p.length<=1048576):=by
  intro r;induction r with
  |nil=>
   intro k ps hk hl SZ;rw[uj.eq_1,if_neg (by simpa using vH hk)];exact .ret SZ
  |cons x r ih=>
   intro k ps hk hl SZ;obtain⟨a1,a2,a3,a4⟩:=wv hk;have hx:=hp.ok x a4;have more: ∀p:qa,p.length<=1048576-> ∀q∈ps++[p],q.length<=1048576:=by
    intro p hp q hq;rcases List.mem_append.1 hq with hq|hq
    ·exact SZ q hq
    simp only[List.mem_singleton]at hq;subst hq;exact hp
   have wV:qg (ps.length+1) 16=true:=by simp only[qg,zB,decide_eq_true_eq];omega
   rw[uj.eq_1,if_pos (by simpa using a1),i9 (by omega) a1];refine .go a2 ?_;refine .tI ?_ ?_<;>intro hT
   ·rcases hx with hx|hx
    ·omega
    refine .bind (qG.kb hx.1 hx.2.1 hx.2.2) fun y hy=>?_;exact .zm wV (ih (k+1) _ a3 (by simp;omega) (more y (by omega)))
   exact .zm wV (ih (k+1) _ a3 (by simp;omega) (more [] (by simp)))
 unfold ch;refine .bind (qG.kb h0 h1 h2) fun y hy=>?_;refine .bind (key m.parts.l 0 [y] rfl rfl (by simp;omega)) fun v hv=>?_;refine .bind (Hu f.uz (by omega) ⟨false,v⟩ hv) fun w hw=>?_;refine .ret ?_;have:qK (f.uz.l.map ei)<=1000000000:=by omega
 have:=Nat.mul_le_mul_left 1048576 this;omega
theorem Np(f:zf)(hf:vW f<=1000000000)(s:qa)(hs:s.length<=1048576)(g:Nat)(hg:g<=1000000000)(ms:Sl qh)(JH:ms.l.length<=1099511627776)(left:Int): ∀(r:List qh)(k:Nat)(a:Int)(out:qa),ms.l.drop k=r->Ms s g a r->out.length<=65536->
  qG (yB (s,ms,left,out,a,(k:Int),f)) (fun v=>match v with| .inl y=>y.2.2.1≠0/\y.1=[]| .inr y=>y.1.length<=65536/\0<=y.2/\y.2<=s.length):=by
 intro r;induction r with
 |nil=>
  intro k a out hk hm ho;rw[yB.eq_1,if_neg (by simpa using vH hk)];exact .ret ⟨ho,hm⟩
 |cons x r ih=>
  intro k a out hk hm ho;obtain⟨a1,a2,a3,a4⟩:=wv hk;obtain⟨m1,m2,m3,m4,m5⟩:=hm;have m6:=m5.lo;rw[yB.eq_1,if_pos (by simpa using a1),i9 (by omega) a1];refine .go a2 ?_;have:= @Vq;exact tW
theorem Hv(f:zf)(hf:vW f<=1000000000)(s:qa)(hs:s.length<=1048576)(g:Nat)(hg:g<=1000000000)(ms:List qh)(JH:ms.length<=1099511627776)(left:Int)(b1:qh)(r2:List qh): ∀(r:List qh)(k:Nat)(a:Int)(out:qa),ms.drop k=r->Ms s g a r->out.length<=65536->
  qG (wc (s,left,out,a,(k:Int),f,b1,r2,ms)) (fun v=>match v with| .inl y=>y.2.2.1≠0/\y.1=[]| .inr y=>y.1.length<=65536/\0<=y.2/\y.2<=s.length):=by
 intro r;induction r with
 |nil=>
  intro k a out hk hm ho;rw[wc.eq_1,if_neg (by simpa using vH hk)];exact .ret ⟨ho,hm⟩
 |cons x r ih=>
  intro k a out hk hm ho;obtain⟨a1,a2,a3,a4⟩:=wv hk;obtain⟨m1,m2,m3,m4,m5⟩:=hm;have m6:=m5.lo;rw[wc.eq_1,if_pos (by simpa using a1),i9 (by omega) a1];refine .go a2 ?_;have:= @Vq;exact tW
theorem dN(f:zf)(hf:vW f<=1000000000)(s:qa)(hs:s.length<=1048576)(fuel:Int):qG (ui f s fuel) (fun r=>r.1.length<=65536\/r.1=s):=by
 have hfw:vW f=tn f.rx+qK (f.uz.l.map ei):=rfl;have hgl:=Pk f.rx;unfold ui;refine .bind (Va f (by omega)) fun v hv=>?_;refine .tI ?_ ?_<;>intro hT
 ·exact .ret (.inl (by simp))
 refine .tI ?_ ?_<;>intro hT
 ·refine .bind (RV f.rx (by omega) f.fold s hs fuel) fun w hw=>?_;refine .tI ?_ ?_<;>intro hT
  ·exact .ret (.inl (by simp))
  have hM:=hw hT;refine .tI ?_ ?_<;>intro hT
  ·exact .ret (.inr rfl)
  refine .bind (Np f hf s hs (sx f.rx) (by omega) w.1 (by have:=hM.2;omega) w.2.1 w.1.l 0 0 [] rfl hM.1 (by simp)) fun y hy=>?_;rcases y with y|y
  ·exact .ret (.inl (by simp only[hy.2,List.length_nil];omega))
  simp only
  (try simp(disch:=omega) only[qI,xp])
  refine .tI ?_ ?_<;>intro hT
  ·exact .ret (.inl (by simp))
  refine .bind (qG.bX hy.2.1 hy.2.2) fun z hz=>?_;refine .zm (by omega) ?_;exact .ret (.inl (by simp only[List.length_append];omega))
 refine .bind (N4 f.rx (by omega) f.fold s hs 0 fuel) fun w hw=>?_;refine .tI ?_ ?_<;>intro hT
 ·have hM:=hw hT;refine .zm (by simp[qg]) ?_;refine .tI ?_ ?_<;>intro hT
  ·exact .ret (.inl (by simp))
  first|refine .ite (fun h=>absurd h (by simp)) fun _=>?_|skip
  refine .bind (Hv f hf s hs (sx f.rx) (by omega) [w.1] (by simp) w.2.1 w.1 [w.1] [w.1] 0 0 [] rfl hM (by simp)) fun y hy=>?_;rcases y with y|y
  ·exact .ret (.inl (by simp only[hy.2,List.length_nil];omega))
  simp only
  (try simp(disch:=omega) only[qI,xp])
  refine .tI ?_ ?_<;>intro hT
  ·exact .ret (.inl (by simp))
  refine .bind (qG.bX hy.2.1 hy.2.2) fun z hz=>?_;refine .zm (by omega) ?_;exact .ret (.inl (by simp only[List.length_append];omega))
 refine .tI ?_ ?_<;>intro hT
 ·exact .ret (.inl (by simp))
 first|exact .ite (fun _=> .ret (.inr rfl)) fun h=>absurd (by decide) h|exact .ret (.inr rfl)
namespace Xr
def me(x:qu):Prop:=vW x.qP<=1000000000/\ ∀o∈x.opts.l,o.length<=17592186044416
theorem iY:Cored me:=by
 intro x y h hy;simp only[core,Prod.mk.injEq]at h;unfold me at*
 rw[h.2.2.2.1,h.2.2.2.2];exact hy
abbrev World:=qa×Sl qx×List qc×Sl (Sl (Sl Int))
structure WK (w:World):Prop where
 ok:PZ me w.1 w.2.1 w.2.2.1 w.2.2.2
 text:w.1.length<=65536
structure QR (i:Nat) (w v:World):Prop where
 len:v.2.2.1.length=w.2.2.1.length
 cur: ∀(j:Nat) s,w.2.2.1[j]? =some s-> ∃s',v.2.2.1[j]? =some s' /\s'.cur=s.cur
 insts: ∀s,w.2.2.1[i]? =some s-> ∃s',v.2.2.1[i]? =some s' /\s'.insts.l.length=s.insts.l.length
theorem QR.refl(i:Nat)(w:World):QR i w w:=⟨rfl,fun j s h=>⟨s,h,rfl⟩,fun s h=>⟨s,h,rfl⟩⟩
theorem QR.trans{i:Nat}{w v u:World}(h1:QR i w v)(h2:QR i v u):QR i w u:=by
 refine⟨h2.len.trans h1.len,fun j s h=>?_,fun s h=>?_⟩
 ·obtain⟨s',a,b⟩:=h1.cur j s h;obtain⟨Ov,c,d⟩:=h2.cur j s' a;exact⟨Ov,c,d.trans b⟩
 obtain⟨s',a,b⟩:=h1.insts s h;obtain⟨Ov,c,d⟩:=h2.insts s' a;exact⟨Ov,c,d.trans b⟩
theorem Qa{w:World}(h:PZ me w.1 w.2.1 w.2.2.1 w.2.2.2){i a k:Nat}{s:qc}{x:qw}(hs:w.2.2.1[i]? =some s)(hx:s.insts.l[a]? =some x)(hk:k<x.stops.l.length):
  w.2.2.2.nil=false/\ ∃f,w.2.2.2.l[i]? =some f/\f.nil=false/\ ∃g,f.l[a]? =some g/\g.nil=false/\g.l.length=x.stops.l.length/\ ∃v,g.l[k]? =some v/\0<=v/\v<=3:=by
 have hi:=(qF hs).1;have ha:=(qF hx).1;refine⟨h.fnn fun c=>?_, ?_⟩
 ·rw[c]at hi;simp at hi
 obtain⟨f,hf⟩:=gl (l:=w.2.2.2.l) (k:=i) (by rw[h.Jx];exact hi);have hF:=h.each i s f hs hf;obtain⟨g,hg⟩:=gl (l:=f.l) (k:=a) (by rw[hF.len];exact ha);obtain⟨q1,q2,q3⟩:=hF.each a x g hx hg;obtain⟨v,hv⟩:=gl (l:=g.l) (k:=k) (by omega);refine⟨f,hf,hF.nn fun c=>?_,g,hg,q2 fun c=>?_,q1,v,hv,q3 v (qX hv)⟩
 ·rw[c]at ha;simp at ha
 rw[c]at hk;simp at hk
theorem WM{w:World}(h:PZ me w.1 w.2.1 w.2.2.1 w.2.2.2){i a k:Nat}{f:Sl (Sl Int)}{g:Sl Int}(hf:w.2.2.2.l[i]? =some f)(hg:f.l[a]? =some g)(v:Int)(hv:0<=v/\v<=3):
  PZ me w.1 w.2.1 w.2.2.1 ⟨false,w.2.2.2.l.set i ⟨false,f.l.set a ⟨false,g.l.set k v⟩⟩⟩:=by
 have fC:=(qF hf).1;have WV:=(qF hg).1;refine⟨h.blen,h.ne,h.Wg,h.T4,h.XI,h.sA,h.small,h.may,by simp[h.Jx],fun _=>rfl, ?_,h.stop⟩;intro j s f' hs Ys;simp only[xP]at Ys;by_cases c:i=j
 ·subst c;rw[if_pos ⟨rfl,fC⟩]at Ys;cases Ys;have hF:=h.each i s f hs hf;refine⟨by simp[hF.len],fun _=>rfl, ?_⟩;intro b x g' hx hg';simp only[xP]at hg';by_cases d:a=b
  ·subst d;rw[if_pos ⟨rfl,WV⟩]at hg';cases hg';obtain⟨q1,q2,q3⟩:=hF.each a x g hx hg;refine⟨by simp[q1],fun _=>rfl,fun u hu=>?_⟩;rcases List.mem_or_eq_of_mem_set hu with hu|rfl
   ·exact q3 u hu
   exact hv
  rw[if_neg (by omega)]at hg';exact hF.each b x g' hx hg'
 rw[if_neg (by omega)]at Ys;exact h.each j s f' hs Ys
theorem nilF{α:Type}{s:Sl α}(h:s.nil=false):(⟨false,s.l⟩:Sl α)=s:=by rw[<- h]
theorem num_L0(i a:Nat)(n:Int)(w:World)(h:PZ me w.1 w.2.1 w.2.2.1 w.2.2.2)(s:qc)(x:qw)(hs:w.2.2.1[i]? =some s)(hx:s.insts.l[a]? =some x)(hL:x.stops.l.length<=2^12):
  ∀(d k:Nat)(held:List Bool),k+d=x.stops.l.length->held.length=x.stops.l.length-> ∃held',jd ((i:Int),(a:Int),n,(k:Int),w.1,w.2.1,w.2.2.1,w.2.2.2,x,held)=some (w.2.2.2,held')/\held'.length=x.stops.l.length:=by
 intro d;induction d with
 |zero=>
  intro k held hk hh;rw[jd.eq_1,if_neg (by simp;omega)];exact⟨held,rfl,hh⟩
 |succ d ih=>
  intro k held hk hh;obtain⟨z,f,hf,fz,g,hg,gz,gl',v,hv,_⟩:=Qa h hs hx (show k<x.stops.l.length by omega);obtain⟨hb,hhb⟩:=gl (l:=held) (k:=k) (by omega);rw[jd.eq_1,if_pos (by simp;omega),z,if_neg (by simp),gi hf,ws (by omega)];simp only[xe,z7];rw[fz,if_neg (by simp),gi hg];simp only[z7];rw[gz,if_neg (by simp),gi hv];simp only[z7];rw[gi hhb];simp only[z7,Int.toNat_natCast];rw[nilF z];exact ih (k+1) _ (by omega) (by simp[hh])
theorem tm2(v:Int)(h:0<=v/\v<=3):0<=v.tmod 2/\v.tmod 2<=1:=by
 rcases(show v=0\/v=1\/v=2\/v=3 by omega)with rfl|rfl|rfl|rfl<;>decide
theorem num_L2(i a:Nat)(n src:Int)(w:World)(s:qc)(x:qw)(hs:w.2.2.1[i]? =some s)(hx:s.insts.l[a]? =some x)(hL:x.stops.l.length<=2^12):
  ∀(d k:Nat)(fl:Sl (Sl (Sl Int))),k+d=x.stops.l.length->PZ me w.1 w.2.1 w.2.2.1 fl->(∀ f g,fl.l[i]? =some f->f.l[a]? =some g-> ∀j,j<k-> ∀v,g.l[j]? =some v->v<=1)->
  ∃Yf,je ((i:Int),(a:Int),n,src,(k:Int),w.1,w.2.1,w.2.2.1,fl,x)=some Yf/\PZ me w.1 w.2.1 w.2.2.1 Yf/\(∀ f g,Yf.l[i]? =some f->f.l[a]? =some g-> ∀j,j<x.stops.l.length-> ∀v,g.l[j]? =some v->v<=1):=by
 intro d;induction d with
 |zero=>
  intro k fl hk h H;rw[je.eq_1,if_neg (by simp;omega)];exact⟨fl,rfl,h,fun f g hf hg j hj v hv=>H f g hf hg j (by omega) v hv⟩
 |succ d ih=>
  intro k fl hk h H;obtain⟨z,f,hf,fz,g,hg,gz,gl',v,hv,hv3⟩:=Qa (w:=(w.1,w.2.1,w.2.2.1,fl)) h hs hx (show k<x.stops.l.length by omega);simp only at z hf;rw[je.eq_1,if_pos (by simp;omega),z,if_neg (by simp),gi hf,ws (by omega)];simp only[xe,z7];rw[fz,if_neg (by simp),gi hg];simp only[z7];rw[gz,if_neg (by simp),gi hv];simp only[z7,Int.toNat_natCast];have h2:=tm2 v hv3;have nN:=WM (w:=(w.1,w.2.1,w.2.2.1,fl)) (k:=k) h hf hg (v.tmod 2) (by omega);refine ih (k+1) _ (by omega) nN fun f' g' Ys hg' j hj u hu=>?_;have fC:=(qF hf).1;have WV:=(qF hg).1;rw[xP,if_pos ⟨rfl,fC⟩]at Ys;cases Ys;simp only at hg';rw[xP,if_pos ⟨rfl,WV⟩]at hg';cases hg';simp only at hu;rw[xP]at hu;by_cases c:k=j
  ·subst c;have mE:=(qF hv).1;rw[if_pos ⟨rfl,mE⟩]at hu;cases hu;exact h2.2
  rw[if_neg (by omega)]at hu;exact H f g hf hg j (by omega) u hu
def X8(i:Nat)(w:World)(v:(Int×World)⊕World):Prop:=match v with
 | .inl u=>u.1≠0
 | .inr u=>WK u/\QR i w u
theorem Ca{i a j:Nat}{w:World}(hw:WK w){s:qc}{y:qw}{x:qu}(hs:w.2.2.1[i]? =some s)(hy:s.insts.l[a]? =some y)(hx:y.stops.l[j]? =some x)(t:qa)(ht:t.length<=65536):
  ∃v:World,jy (i:Int) (a:Int) (j:Int) (qo.mk x.span t) false w.1 w.2.1 w.2.2.1 w.2.2.2=some v/\PZ me v.1 v.2.1 v.2.2.1 v.2.2.2/\QR i w v:=by
 have hm:=hw.ok.may s (qX hs);have h1:=(hm.may a y hy).inside j x hx;have h2:=(hm.may a y hy).le j x hx;have h3:=(hm.may a y hy).QN;have Qk:=hw.text;have he:gx (qo.mk x.span t) w.1.length:=⟨by simp only;omega,by simp only;omega,by simp only;omega,by simp only;omega,by omega⟩;obtain⟨v,g1,g2⟩:=Mc iY hw.ok he (by simp only;omega) (i:Int) (a:Int) (j:Int) false (.inr ⟨i,s,rfl,hs,by omega,.inr ⟨a,j,y,x,rfl,rfl,hy,hx,X6 _⟩⟩);exact⟨v,g1,g2.ok,⟨g2.len,g2.cur,fun s' eN=>g2.top i s' rfl (by omega) eN⟩⟩
theorem Vk(i a j:Nat)(n:Int)(t:qa)(ht:t.length<=65536)(b3:qw)(w:World)(hw:WK w)(hi:i<w.2.2.1.length)
  (next: ∀w' :World,WK w' ->QR i w w' ->j<2^12->qG (zd ((i:Int),(a:Int),n,t,((j+1:Nat):Int),w'.1,w'.2.1,w'.2.2.1,w'.2.2.2,b3)) (X8 i w)):
  qG (zd ((i:Int),(a:Int),n,t,(j:Int),w.1,w.2.1,w.2.2.1,w.2.2.2,b3)) (X8 i w):=by
 obtain⟨s,hs⟩:=gl hi;have Qi:=hw.ok.small s (qX hs);rw[zd.eq_1];refine .go (gi hs) ?_;by_cases ha:a<s.insts.l.length
 ·obtain⟨y,hy⟩:=gl ha;have Es:=Qi.2 y (qX hy);rw[if_pos (by simpa using ha)];refine .go (gi hy) ?_;by_cases hj:j<y.stops.l.length
  ·obtain⟨x,hx⟩:=gl hj;obtain⟨z,f,hf,fz,g,hg,gz,gl',v,hv,hv3⟩:=Qa hw.ok hs hy hj;rw[if_pos (by simpa using hj)];refine .go (gi hx) ?_;rw[z,if_neg (by simp)];refine .go (gi hf) ?_;rw[fz,if_neg (by simp)];refine .go (gi hg) ?_;rw[gz,if_neg (by simp),nilF z,ws (k:=j) (by omega)];have ka:=next w hw (.refl i w) (by omega)
   have hm:=hw.ok.may s (qX hs);have h1:=(hm.may a y hy).inside j x hx;have h2:=(hm.may a y hy).le j x hx;have h3:=(hm.may a y hy).QN;have XF:=hw.ok.stop s (qX hs) y (qX hy) x (qX hx);have hcut:qG (kb w.1 x.span.qO x.span.to) (fun _=>True):=(qG.kb).mono fun _ _=>trivial;have BJ: ∀(u:qa),u.length<=65536->qG (jy (i:Int) (a:Int) (j:Int) (qo.mk x.span u) false w.1 w.2.1 w.2.2.1 w.2.2.2>>=fun v=>
     if(decide ((v.1.length:Int)>(65536:Int)))=true then some (.inl ((4:Int),v.1,v.2.1,v.2.2.1,v.2.2.2))
     else zd ((i:Int),(a:Int),n,t,((j+1:Nat):Int),v.1,v.2.1,v.2.2.1,v.2.2.2,b3)) (X8 i w):=by
    intro u hu;obtain⟨v,k1,k2,k3⟩:=Ca hw hs hy hx u hu;refine .go k1 ?_;by_cases c:(v.1.length:Int)>65536
    ·rw[if_pos (by simpa using c)];exact .ret (show (4:Int)≠0 by decide)
    rw[if_neg (by simpa using c)];exact next v ⟨k2,by omega⟩ k3 (by omega)
   refine .ite (fun _=>ka) fun _=>?_;refine .go (gi hv) ?_;refine .ite (fun _=>ka) fun _=>?_;refine .ite (fun _=>?_) fun _=>?_
   ·refine .bind (dN x.qP XF.1 t (by omega) 20000) fun r hr=>?_;refine .ite (fun c=>?_) fun _=>?_
    ·exact .ret (show r.2.2≠0 by simpa using c)
    refine .bind hcut fun q _=>?_;refine .ite (fun _=>ka) fun _=>?_;refine BJ r.1 ?_;rcases hr with hr|hr
    ·exact hr
    rw[hr];exact ht
   refine .bind hcut fun q _=>?_;exact .ite (fun _=>ka) fun _=>BJ t ht
  rw[if_neg (by simpa using hj)];exact .ret ⟨hw,.refl i w⟩
 rw[if_neg (by simpa using ha)];exact .ret ⟨hw,.refl i w⟩
theorem X8.trans{i:Nat}{w w' :World}(h:QR i w w')(v:(Int×World)⊕World)(hv:X8 i w' v):X8 i w v:=by
 rcases v with v|v
 ·exact hv
 exact⟨hv.1,h.trans hv.2⟩
theorem num_L4(i a:Nat)(n:Int)(t:qa)(ht:t.length<=65536)(b3:qw): ∀(m j:Nat)(w:World),j+m=2^12->WK w->i<w.2.2.1.length->
  qG (zd ((i:Int),(a:Int),n,t,(j:Int),w.1,w.2.1,w.2.2.1,w.2.2.2,b3)) (X8 i w):=by
 intro m;induction m with
 |zero=>intro j w hj hw hi;exact Vk i a j n t ht b3 w hw hi fun w' _ _ h=>by omega
 |succ m ih=>
  intro j w hj hw hi;refine Vk i a j n t ht b3 w hw hi fun w' hw' hs _=>?_;exact(ih (j+1) w' (by omega) hw' (by rw[hs.len];exact hi)).mono fun v hv=>X8.trans hs v hv
def NumR(i:Nat)(w:World)(v:Int×World):Prop:=v.1≠0\/v.1=0/\WK v.2/\QR i w v.2
theorem cK(i a:Nat)(n:Int)(w:World)(hw:WK w)(s:qc)(hs:w.2.2.1[i]? =some s)(ha:a<s.insts.l.length):
  qG (yM (i:Int) (a:Int) n w.1 w.2.1 w.2.2.1 w.2.2.2) (NumR i w):=by
 obtain⟨y,hy⟩:=gl ha;have Qi:=hw.ok.small s (qX hs);have Es:=Qi.2 y (qX hy);have hi:=(qF hs).1;have Qk:=hw.text;unfold yM;refine .go (gi hs) ?_;refine .go (gi hy) ?_;refine .zm (by omega) ?_;refine .zm (qB (by simp;omega) (by omega)) ?_;obtain⟨held,g1,g2⟩:=num_L0 i a n w hw.ok s y hs hy Es y.stops.l.length 0 (List.replicate y.stops.l.length false) (by omega) (by simp);rw[Int.toNat_natCast];refine .go g1 ?_;refine .bind (Pq y n ⟨false,held⟩ (by omega)) fun src nO=>?_;rcases nO with nO|⟨k,x,rfl,hx⟩
 ·rw[if_pos (by simpa using nO)];exact .ret (.inr ⟨rfl,hw,.refl i w⟩)
 rw[if_neg (by simp)];have hk:=(qF hx).1;obtain⟨Yf,q1,q2,q3⟩:=num_L2 i a n (k:Int) w s y hs hy Es y.stops.l.length 0 w.2.2.2 (by omega) hw.ok (fun f g _ _ j hj=>by omega);refine .go q1 ?_;obtain⟨z,f,hf,fz,g,hg,gz,gl',v,hv,hv3⟩:=Qa (w:=(w.1,w.2.1,w.2.2.1,Yf)) q2 hs hy hk;simp only at z hf;have Ql:=q3 f g hf hg k hk v hv;rw[z,if_neg (by simp)];refine .go (gi hf) ?_;rw[fz,if_neg (by simp)];refine .go (gi hg) ?_;rw[gz,if_neg (by simp)];refine .go (gi hv) ?_;refine .go (gi hx) ?_;have hm:=hw.ok.may s (qX hs);have h1:=(hm.may a y hy).inside k x hx;have h2:=(hm.may a y hy).le k x hx;have h3:=(hm.may a y hy).QN;refine .bind (qG.kb (l:=w.1) (lo:=x.span.qO) (hi:=x.span.to) (by omega) (by omega) (by omega)) fun t ht=>?_;have nN:=WM (w:=(w.1,w.2.1,w.2.2.1,Yf)) (k:=k) q2 hf hg (v+2) (by omega);rw[qI (n:=v+2) (by omega) (by omega),Int.toNat_natCast,Int.toNat_natCast,Int.toNat_natCast];have Tp:WK (w.1,w.2.1,w.2.2.1,(⟨false,Yf.l.set i ⟨false,f.l.set a ⟨false,g.l.set k (v+2)⟩⟩⟩:Sl (Sl (Sl Int)))):=⟨nN,hw.text⟩;refine .bind (num_L4 i a n t (by omega) y (2^12) 0 _ (by omega) Tp hi) fun r hr=>?_;rcases r with r|r
 ·exact .ret (.inl hr)
 exact .ret (.inr ⟨rfl,hr.1,⟨hr.2.len,hr.2.cur,hr.2.insts⟩⟩)
end Xr
namespace Xr
structure X7 (w v:World):Prop where
 len:v.2.2.1.length=w.2.2.1.length
 cur: ∀(j:Nat) s,w.2.2.1[j]? =some s-> ∃s',v.2.2.1[j]? =some s' /\s'.cur=s.cur
theorem X7.refl(w:World):X7 w w:=⟨rfl,fun j s h=>⟨s,h,rfl⟩⟩
theorem X7.trans{w v u:World}(h1:X7 w v)(h2:X7 v u):X7 w u:=by
 refine⟨h2.len.trans h1.len,fun j s h=>?_⟩;obtain⟨s',a,b⟩:=h1.cur j s h;obtain⟨Ov,c,d⟩:=h2.cur j s' a;exact⟨Ov,c,d.trans b⟩
theorem QR.Xp{i:Nat}{w v:World}(h:QR i w v):X7 w v:=⟨h.len,h.cur⟩
def MirQ(w:World)(v:(Int×World)⊕World):Prop:=match v with
 | .inl u=>u.1≠0
 | .inr u=>WK u/\X7 w u
theorem mir_L4(i a:Nat)(ns:Sl Int)(hn:ns.l.length<=2^12): ∀(d k:Nat)(w:World),k+d=ns.l.length->WK w->(∃ s,w.2.2.1[i]? =some s/\a<s.insts.l.length)->
  qG (jc ((i:Int),(a:Int),ns,(k:Int),w.1,w.2.1,w.2.2.1,w.2.2.2)) (X8 i w):=by
 intro d;induction d with
 |zero=>intro k w h hw _;rw[jc.eq_1,if_neg (by simp;omega)];exact .ret ⟨hw,.refl i w⟩
 |succ d ih=>
  intro k w h hw hs;obtain⟨s,hs,ha⟩:=hs;obtain⟨x,hx⟩:=gl (l:=ns.l) (k:=k) (by omega);rw[jc.eq_1,if_pos (by simp;omega),ws (k:=k) (by omega)];refine .go (gi hx) ?_;refine .bind (cK i a x w hw s hs ha) fun v hv=>?_;rcases hv with hv|⟨h0,h1,h2⟩
  ·rw[if_pos (by simpa using hv)];exact .ret hv
  rw[if_neg (by simpa using h0)];obtain⟨s',k1,k2⟩:=h2.insts s hs;exact(ih (k+1) v.2 (by omega) h1 ⟨s',k1,by omega⟩).mono fun u hu=>X8.trans h2 u hu
theorem mir_L2(i:Nat): ∀(d a:Nat)(w:World),WK w->(∃ s,w.2.2.1[i]? =some s/\a+d=s.insts.l.length)->
  qG (jb ((i:Int),(a:Int),w.1,w.2.1,w.2.2.1,w.2.2.2)) (X8 i w):=by
 intro d;induction d with
 |zero=>
  intro a w hw hs;obtain⟨s,hs,ha⟩:=hs;rw[jb.eq_1];refine .go (gi hs) ?_;rw[if_neg (by simp;omega)];exact .ret ⟨hw,.refl i w⟩
 |succ d ih=>
  intro a w hw hs;obtain⟨s,hs,ha⟩:=hs;have Qi:=hw.ok.small s (qX hs);have nh:=Qi.1;obtain⟨y,hy⟩:=gl (l:=s.insts.l) (k:=a) (by omega);rw[jb.eq_1];refine .go (gi hs) ?_;rw[if_pos (by simp;omega)];refine .go (gi hy) ?_;refine .bind (Cm y (Qi.2 y (qX hy))) fun ns SU=>?_;refine .bind (mir_L4 i a ns SU ns.l.length 0 w (by omega) hw ⟨s,hs,by omega⟩) fun v hv=>?_;rcases v with v|v
  ·exact .ret hv
  obtain⟨h1,h2⟩:=hv;obtain⟨s',k1,k2⟩:=h2.insts s hs;simp only;rw[ws (k:=a) (by omega)];exact(ih (a+1) v h1 ⟨s',k1,by omega⟩).mono fun u hu=>X8.trans h2 u hu
theorem mir_L0: ∀(i:Nat)(w:World),i<=w.2.2.1.length->WK w->qG (ja ((i:Int)-1,w.1,w.2.1,w.2.2.1,w.2.2.2)) (MirQ w):=by
 intro i;induction i with
 |zero=>
  intro w _ hw;rw[ja.eq_1,if_neg (by simp)];exact .ret ⟨hw,.refl w⟩
 |succ i ih=>
  intro w hi hw;have DF:=hw.ok.sA;obtain⟨s,hs⟩:=gl (l:=w.2.2.1) (k:=i) (by omega);rw[show ((i+1:Nat):Int)-1=(i:Int) by omega,ja.eq_1,if_pos (by simp),qI (n:=(i:Int)-1) (by omega) (by omega)];refine .bind (mir_L2 i s.insts.l.length 0 w hw ⟨s,hs,by omega⟩) fun v hv=>?_;rcases v with v|v
  ·exact .ret hv
  obtain⟨h1,h2⟩:=hv;refine(ih v (by rw[h2.len];omega) h1).mono fun u hu=>?_;rcases u with u|u
  ·exact hu
  exact⟨hu.1,h2.Xp.trans hu.2⟩
theorem K0(w:World)(hw:WK w):qG (wo w.1 w.2.1 w.2.2.1 w.2.2.2) (fun v=>v.1≠0\/v.1=0/\WK v.2/\X7 w v.2):=by
 have DF:=hw.ok.sA;unfold wo;rw[qI (n:=(w.2.2.1.length:Int)-1) (by omega) (by omega)];refine .bind (mir_L0 w.2.2.1.length w (xJ _) hw) fun v hv=>?_;rcases v with v|v
 ·exact .ret (.inl hv)
 exact .ret (.inr ⟨rfl,hv.1,hv.2⟩)
end Xr
namespace Xr
section
variable {α:Type} (key:α->ql)
theorem pos_map(x:α)(s:List α): ∀k,pos key x s k=pos id (key x) (s.map key) k:=by
 intro k;induction k with
 |zero=>rfl
 |succ k ih=>
  rw[pos,pos,List.getElem?_map];cases s[k]? with
  |none=>rfl
  |some y=>simp only[Option.map_some,id,ih]
theorem EA(x:α)(s:List α):(tU key s x).map key=tU id (s.map key) (key x):=by
 unfold tU;rw[pos_map key x s s.length,List.length_map];simp[List.map_take,List.map_drop]
theorem M7: ∀(r s:List α),(xV key s r).map key=xV id (s.map key) (r.map key):=by
 intro r;induction r with
 |nil=>intro s;rfl
 |cons x r ih=>
  intro s;show(xV key (tU key s x) r).map key=xV id (tU id (s.map key) (key x)) (r.map key);rw[ih,EA]
end
def gE(e:qo):Int:=(e.text.length:Int)-(e.span.to-e.span.qO)
def tv(l:List qo):Int:=(l.map gE).sum
def wu(l:List qo):Nat:=(l.map fun e=>e.text.length).sum
theorem sumG_le{n:Int}: ∀(l:List qo),(∀ e∈l,e.span.qO<=e.span.to)->tv l<=wu l:=by
 intro l;induction l with
 |nil=>intro _;simp[tv,wu]
 |cons e l ih=>
  intro h;have h1:=h e (by simp);have h2:=ih fun e' W6=>h e' (by simp[W6]);simp only[tv,wu,List.map_cons,List.sum_cons,gE]at*
  omega
theorem Dl{l r:List qo}(h:l.Perm r):tv l=tv r:=by
 induction h with
 |nil=>rfl
 |cons x _ ih=>simp only[tv,List.map_cons,List.sum_cons]at *; omega
 |swap x y l=>simp only[tv,List.map_cons,List.sum_cons];omega
 |trans _ _ ih1 ih2=>exact ih1.trans ih2
theorem Dm{l r:List qo}(h:l.Perm r):wu l=wu r:=by
 induction h with
 |nil=>rfl
 |cons x _ ih=>simp only[wu,List.map_cons,List.sum_cons]at *; omega
 |swap x y l=>simp only[wu,List.map_cons,List.sum_cons];omega
 |trans _ _ ih1 ih2=>exact ih1.trans ih2
def Ew(n:Int)(p:ql):Prop:=0<=p.qO/\p.qO<=p.to/\p.to<=n
theorem TB(p:ql)(n:Int): ∃b:Bool,th p n=some b/\(b=true↔Ew n p):=by
 unfold th Ew;by_cases h1:0<=p.qO<;>by_cases h2:p.qO<=p.to<;>simp[h1,h2]
theorem sumT_sp{n:Int}(hn:0<=n): ∀(l:List qo),(∀ e∈l,Ew n e.span)->(wu l:Int)<=tv l+l.length*n:=by
 intro l;induction l with
 |nil=>intro _;simp[tv,wu]
 |cons e l ih=>
  intro h;have h1:=h e (by simp);have h2:=ih fun e' W6=>h e' (by simp[W6]);unfold Ew at h1;simp only[tv,wu,List.map_cons,List.sum_cons,gE,List.length_cons]at*
  push_cast at*
  rw[Int.add_mul];omega
structure Xw (n:Int) (es:List qo):Prop where
 XI: ∀e∈es,Ew n e.span
 apart:(xV (·.span) [] es).Pairwise fun a b=>a.span.to<=b.span.qO
theorem Cr(n:Int)(es:Sl qo)(hl:es.l.length<2^60): ∀(r:List qo)(k:Nat),es.l.drop k=r-> ∃v,yR (n,es,(k:Int))=some v/\(v= .inl 3\/v= .inr ()/\ ∀e∈r,Ew n e.span):=by
 intro r;induction r with
 |nil=>
  intro k h;have:=zc h;rw[yR.eq_1,if_neg (by simp;omega)];exact⟨_,rfl,.inr ⟨rfl,by simp⟩⟩
 |cons e r ih=>
  intro k h;obtain⟨h1,h2,h3⟩:=zp h;obtain⟨b,g1,g2⟩:=TB e.span n;rw[yR.eq_1,if_pos (by simp;omega),gi h1,ws (k:=k) (by omega)];simp only[xe,z7,g1];cases b with
  |false=>exact⟨_,rfl,.inl rfl⟩
  |true=>
   obtain⟨v,q1,q2⟩:=ih (k+1) h2;rw[if_neg (by simp),q1];refine⟨v,rfl, ?_⟩;rcases q2 with q2|⟨q2,q3⟩
   ·exact .inl q2
   refine .inr ⟨q2,fun e' W6=>?_⟩;rcases List.mem_cons.1 W6 with rfl|W6
   ·exact g2.1 rfl
   exact q3 e' W6
theorem Df(es:Sl qo)(hl:es.l.length<=2^20): ∀(r:List qo)(k:Nat)(out:List ql),es.l.drop k=r->out.length=k->uN (es,(k:Int),out)=some (out++r.map (·.span)):=by
 intro r;induction r with
 |nil=>
  intro k out h _;have:=zc h;rw[uN.eq_1,if_neg (by simp;omega)];simp
 |cons e r ih=>
  intro k out h ho;obtain⟨h1,h2,h3⟩:=zp h;rw[uN.eq_1,if_pos (by simp;omega),gi h1,ws (k:=k) (by omega)];simp only[xe,z7];rw[if_pos qB,ih (k+1) (out++[e.span]) h2 (by simp;omega)];simp
theorem Ac(s:Sl ql)(hl:s.l.length<2^60): ∀(d k:Nat),k+d=s.l.length-> ∃v,yf (s,(k:Int))=some v/\(v= .inl false\/v= .inr ()/\ ∀(j:Nat) x,k<=j->s.l[j]? =some x->x.qO<=x.to/\(∀ y,0<j->s.l[j-1]? =some y->y.to<=x.qO)):=by
 intro d;induction d with
 |zero=>
  intro k h;rw[yf.eq_1,if_neg (by simp;omega)];exact⟨_,rfl,.inr ⟨rfl,fun j x hj hx=>by have:=(qF hx).1;omega⟩⟩
 |succ d ih=>
  intro k h;obtain⟨x,hx⟩:=gl (l:=s.l) (k:=k) (by omega);obtain⟨v,q1,q2⟩:=ih (k+1) (by omega);rw[yf.eq_1,if_pos (by simp;omega),gi hx,ws (k:=k) (by omega)];simp only[xe,z7];by_cases c1:x.qO>x.to
  ·rw[if_pos (by simpa using c1)];exact⟨_,rfl,.inl rfl⟩
  rw[if_neg (by simpa using c1)];cases k with
  |zero=>
   rw[if_neg (by simp),q1];refine⟨v,rfl, ?_⟩;rcases q2 with q2|⟨q2,q3⟩
   ·exact .inl q2
   refine .inr ⟨q2,fun j z hj hz=>?_⟩;by_cases c:j=0
   ·subst c;rw[hx]at hz;cases hz;exact⟨by omega,fun y hy=>by omega⟩
   exact q3 j z (by omega) hz
  |succ k=>
   obtain⟨y,hy⟩:=gl (l:=s.l) (k:=k) (by omega);rw[if_pos (by simp<;>omega),show IntKind.i64.wrap (((k+1:Nat):Int)-1)=(k:Int)from by rw[qI (by omega) (by omega)];omega,gi hy];simp only[z7];by_cases c2:x.qO<=y.qO
   ·rw[if_pos (by simpa using c2)];exact⟨_,rfl,.inl rfl⟩
   rw[if_neg (by simpa using c2)];by_cases c3:x.qO<y.to
   ·rw[if_pos (by simpa using c3)];exact⟨_,rfl,.inl rfl⟩
   rw[if_neg (by simpa using c3),q1];refine⟨v,rfl, ?_⟩;rcases q2 with q2|⟨q2,q3⟩
   ·exact .inl q2
   refine .inr ⟨q2,fun j z hj hz=>?_⟩;by_cases c:j=k+1
   ·subst c;rw[hx]at hz;cases hz;refine⟨by omega,fun y' _ hy' =>?_⟩;rw[Nat.add_sub_cancel,hy]at hy';cases hy';omega
   exact q3 j z (by omega) hz
theorem Jj(s:List ql)(h: ∀(j:Nat) x,s[j]? =some x->x.qO<=x.to/\(∀ y,0<j->s[j-1]? =some y->y.to<=x.qO)):s.Pairwise fun a b=>a.to<=b.qO:=by
 rw[List.pairwise_iff_getElem];intro i j hi hj DJ;have key: ∀(d:Nat)(x:ql),s[i+1+d]? =some x->(s[i]'hi).to<=x.qO:=by
  intro d;induction d with
  |zero=>
   intro x hx;exact(h (i+1) x hx).2 _ (by omega) (by rw[Nat.add_sub_cancel];exact kU hi)
  |succ d ih=>
   intro x hx;have hl:=(qF hx).1;obtain⟨y,hy⟩:=gl (l:=s) (k:=i+1+d) (by omega);have h1:=ih y hy;have h2:=(h (i+1+d) y hy).1;have h3:=(h (i+1+(d+1)) x hx).2 y (by omega) (by rw[show i+1+(d+1)-1=i+1+d by omega];exact hy);omega
 have:=key (j-(i+1)) (s[j]'hj) (by rw[show i+1+(j-(i+1))=j by omega];exact kU hj);exact this
theorem AO(es:Sl qo)(hl:es.l.length<=2^20)(hb: ∀e∈es.l,-(2^36)<=e.span.to-e.span.qO/\e.span.to-e.span.qO<=2^36): ∀(r:List qo)(k:Nat)(n:Int),es.l.drop k=r-> -(k:Int)*2^38-2^40<=n->n+wu r+r.length*2^36<=2^61->uM (n,es,(k:Int))=some (n+tv r):=by
 intro r;induction r with
 |nil=>
  intro k n h _ _;have:=zc h;rw[uM.eq_1,if_neg (by simp;omega)];simp[tv]
 |cons e r ih=>
  intro k n h DK Tk;obtain⟨h1,h2,h3⟩:=zp h;obtain⟨b2,b3⟩:=hb e (qX h1);have Xk:(k:Int)<=2^20:=by omega
  have hT:(wu (e::r):Int)=e.text.length+wu r:=by simp[wu]
  simp only[List.length_cons]at Tk;rw[hT]at Tk;rw[uM.eq_1,if_pos (by simp;omega),gi h1,ws (k:=k) (by omega)];simp only[xe,z7];rw[qI (n:=n+(e.text.length:Int)) (by omega) (by omega),qI (n:=e.span.to-e.span.qO) (by omega) (by omega),qI (n:=n+(e.text.length:Int)-(e.span.to-e.span.qO)) (by omega) (by omega)];rw[ih (k+1) _ h2 (by push_cast;omega) (by push_cast;omega)];simp only[tv,List.map_cons,List.sum_cons,gE];congr 1;omega
theorem TC(n:Int)(hn:0<=n/\n<=2^36)(es:Sl qo)(hl:es.l.length<=2^19)(ht:wu es.l<=2^60):qG (aK n es) (fun v=>v=0->Xw n es.l/\n+tv es.l<=65536):=by
 have hR:qG (sr n es) (fun v=>v=0->Xw n es.l):=by
  unfold sr;obtain⟨v,g1,g2⟩:=Cr n es (by omega) es.l 0 rfl;refine .go g1 ?_;rcases g2 with rfl|⟨rfl,g2⟩
  ·exact .ret fun h=>absurd h (by decide)
  have hs:dv es=some ⟨(es.l.map (·.span)).isEmpty,es.l.map (·.span)⟩:=by
   unfold dv;rw[show (0:Int)=((0:Nat):Int)from rfl,Df es (by omega) es.l 0 [] rfl rfl];rfl
  refine .go hs ?_;have sH:=(mY id (es.l.map (·.span)) []).length_eq;simp only[List.nil_append,List.length_map]at sH;have hA:qG (dn ⟨(es.l.map (·.span)).isEmpty,es.l.map (·.span)⟩) (fun b=>b=true->(xV id [] (es.l.map (·.span))).Pairwise fun a b=>a.to<=b.qO):=by
   unfold dn;refine .go (Bk _ (by simp;omega)) ?_;obtain⟨w,q1,q2⟩:=Ac ⟨(xV id [] (es.l.map (·.span))).isEmpty,xV id [] (es.l.map (·.span))⟩ (by simp only;omega) (xV id [] (es.l.map (·.span))).length 0 (by simp);refine .go q1 ?_;rcases q2 with rfl|⟨rfl,q2⟩
   ·exact .ret (by simp)
   exact .ret fun _=>Jj _ fun j x hx=>q2 j x (by omega) hx
  refine .bind hA fun b hb=>?_;refine .ite (fun _=> .ret fun h=>absurd h (by decide)) fun c=> .ret fun _=>⟨g2, ?_⟩;have xQ:=hb (by simpa using c);rw[show xV id [] (es.l.map (·.span))=(xV (·.span) [] es.l).map (·.span)from(M7 (fun x:qo=>x.span) es.l []).symm]at xQ;exact List.pairwise_map.1 xQ
 unfold aK;refine .bind hR fun v hv=>?_;refine .ite (fun c=> .ret fun h=>absurd h (by simpa using c)) fun c=>?_;have sG:=hv (by simpa using c);have hG:dq n es=some (n+tv es.l):=by
  unfold dq;rw[show (0:Int)=((0:Nat):Int)from rfl,AO es (by omega) (fun e he=>⟨by have:=sG.XI e he;unfold Ew at this;omega,by have:=sG.XI e he;unfold Ew at this;omega⟩) es.l 0 n rfl (by omega) (by omega)];rfl
 refine .go hG ?_;refine .ite (fun _=> .ret fun h=>absurd h (by decide)) fun c=> .ret fun _=>⟨sG,by simpa using c⟩
end Xr
namespace Xr
abbrev WO(w:World):=PZ me w.1 w.2.1 w.2.2.1 w.2.2.2
theorem PZ.take{w:World}(h:WO w)(n:Nat):PZ me w.1 w.2.1 (w.2.2.1.take n) ⟨w.2.2.2.nil,w.2.2.2.l.take n⟩:=by
 have get: ∀(j:Nat) s,(w.2.2.1.take n)[j]? =some s->w.2.2.1[j]? =some s:=fun j s hs=>by
  exact tW
 refine⟨h.blen,h.ne,h.Wg,h.T4,h.XI,by have:=h.sA;simp;omega,fun s hs=>h.small s (List.mem_of_mem_take hs),fun s hs=>h.may s (List.mem_of_mem_take hs),by simp[h.Jx],fun c=>h.fnn fun c2=>c (by rw[c2];simp), ?_,fun s hs=>h.stop s (List.mem_of_mem_take hs)⟩;intro j s f hs hf;have hj:=(qF hf).1;simp at hj;simp only at hf;rw[List.getElem?_take_of_lt (by omega)]at hf;exact h.each j s f (get j s hs) hf
theorem lead_L2(n:Nat)(l:Sl qo)(n0:Int)(UC:0<=n0/\n0<=65536)(hT:wu l.l<=2^36)(sE: ∀e∈l.l,0<=e.span.qO/\e.span.qO<=e.span.to)(hap:l.l.Pairwise fun a b=>a.span.to<=b.span.qO)(SQ:l.l.length<=2^20):
  ∀(k:Nat)(w:World),k<=l.l.length->WO w->w.2.2.1.length=n->(w.1.length:Int)=n0+tv (l.l.drop k)->(∀ e∈l.l.take k,e.span.to<=w.1.length)->
  qG (xz ((n:Int),l,(k:Int)-1,w.1,w.2.1,w.2.2.1,w.2.2.2)) (fun v:World=>WO v/\(v.1.length:Int)=n0+tv l.l/\X7 w v):=by
 intro k;induction k with
 |zero=>
  intro w _ hw _ hlen _;rw[xz.eq_1,if_neg (by simp)];exact .ret ⟨hw,by simpa using hlen,.refl w⟩
 |succ k ih=>
  intro w hk hw hwn hlen hto;obtain⟨e,he⟩:=gl (l:=l.l) (k:=k) (by omega);have hem:=qX he;have hei:=sE e hem;have hd:l.l.drop k=e::l.l.drop (k+1):=by
   have QM:=(qF he).1;rw[List.drop_eq_getElem_cons QM];rw[kU QM]at he;cases he;rfl
  have htk:e∈l.l.take (k+1):=by
   rw[List.take_add_one,he];simp
  have rD:=hto e htk;have hsT: ∀j,wu (l.l.drop j)<=wu l.l:=by
   intro j;have:=List.take_append_drop j l.l;have h5:=congrArg wu this;simp only[wu,List.map_append,List.sum_append]at h5 |-;omega
  have hsg:=sumG_le (n:=0) (l.l.drop (k+1)) fun e' W6=>(sE e' (List.mem_of_mem_drop W6)).2;have ht1:=hsT (k+1);have ht0:=hsT k;have het:e.text.length<=wu (l.l.drop k):=by
   rw[hd];simp only[wu,List.map_cons,List.sum_cons];omega
  have hE:gx e w.1.length:=⟨by omega,by omega,by omega,by omega,by omega⟩;have hnext: ∀(v:World),WO v->v.1=newText w.1 e->X7 w v->qG (xz ((n:Int),l,(k:Int)-1,v.1,v.2.1,v.2.2.1,v.2.2.2)) (fun v:World=>WO v/\(v.1.length:Int)=n0+tv l.l/\X7 w v):=by
   intro v hv ht hs;have Eo:=ZS w.1 e hE;rw[<- ht]at Eo;refine(ih v (by omega) hv (by rw[hs.len];exact hwn) ?_ ?_).mono fun u hu=>⟨hu.1,hu.2.1,hs.trans hu.2.2⟩
   ·rw[hd];simp only[tv,List.map_cons,List.sum_cons,gE]at hlen |-;omega
   intro e' W6;obtain⟨j,hj⟩:=jz W6;have BH:j<k:=by have:=(qF hj).1;simp at this;omega
   rw[List.getElem?_take_of_lt BH]at hj;have NY:=(qF hj).1;have mE:=(qF he).1;have:=List.pairwise_iff_getElem.1 hap j k NY mE BH;rw[kU NY]at hj;rw[kU mE]at he;cases hj;cases he;omega
  rw[show ((k+1:Nat):Int)-1=(k:Int) by omega,xz.eq_1,if_pos (by simp),show IntKind.i64.wrap ((k:Int)-1)=(k:Int)-1 from qI (by omega) (by omega)];have DF:=hw.sA;by_cases hn:0<n
  ·obtain⟨s,hs⟩:=gl (l:=w.2.2.1) (k:=n-1) (by omega);rw[if_pos (by simpa using hn),show IntKind.i64.wrap ((n:Int)-1)=((n-1:Nat):Int)from by rw[qI (by omega) (by omega)];omega];refine .go (gi hs) ?_;refine .go (gi he) ?_;refine .bind (Zo s e.span (hw.small s (qX hs))) fun o ho=>?_;obtain⟨v,g1,g2⟩:=Mc iY hw hE (by omega) ((n-1:Nat):Int) o.1 o.2 true (by
    rcases ho with rfl|ho
    ·exact .inl ⟨rfl,rfl⟩
    have:=ho.nat
    obtain⟨a',k',i,x,q1,q2,q3,q4,_,_,q5⟩:=ho
    exact .inr ⟨n-1,s,rfl,hs,by omega,.inr ⟨a',k',i,x,q1,q2,q3,q4,q5⟩⟩)
   refine .go g1 ?_;exact hnext v g2.ok g2.text ⟨g2.len,g2.cur⟩
  rw[if_neg (by simpa using hn)];refine .go (gi he) ?_;obtain⟨v,g1,g2⟩:=Mc iY hw hE (by omega) (IntKind.i64.wrap ((n:Int)-1)) (-1) (-1) true (.inl ⟨rfl,rfl⟩);refine .go g1 ?_;exact hnext v g2.ok g2.text ⟨g2.len,g2.cur⟩
theorem lead_L0(es:Sl qo)(he:es.l.length<2^60)(w:qa)(w2:Sl qx)(ss:List qc)(fl:Sl (Sl (Sl Int)))(hs: ∀s∈ss,jX s)(DF:ss.length<=16): ∀k,k<=ss.length->qG (jN (es,(k:Int),w,w2,ss,fl)) (fun v=> ∃n:Nat,v=n/\n<=k):=by
 intro k;induction k with
 |zero=>intro _;rw[jN.eq_1,if_neg (by simp)];exact .ret ⟨0,rfl,xJ _⟩
 |succ k ih=>
  intro hk;obtain⟨s,nh⟩:=gl (l:=ss) (k:=k) (by omega);rw[jN.eq_1,if_pos (by simp<;>omega),show IntKind.i64.wrap (((k+1:Nat):Int)-1)=(k:Int)from by rw[qI (by omega) (by omega)];omega];refine .go (gi nh) ?_;refine .bind (Dh s es (hs s (qX nh)) he) fun b _=>?_;refine .ite (fun _=>?_) fun _=> .ret ⟨k+1,rfl,xJ _⟩;exact tW
structure Led (w:World) (es:List qo) (v:World):Prop where
 ok:WO v
 text:(v.1.length:Int)=w.1.length+tv es
 len:v.2.2.1.length<=w.2.2.1.length
 cur: ∀(j:Nat) s',v.2.2.1[j]? =some s' -> ∃s,w.2.2.1[j]? =some s/\s'.cur=s.cur
theorem rT(w:World)(hw:WO w)(hn:w.1.length<=65536)(es:Sl qo)(hE:Xw w.1.length es.l)(hT:wu es.l<=2^36)(hl:es.l.length<=2^19):qG (ym es w.1 w.2.1 w.2.2.1 w.2.2.2) (Led w es.l):=by
 have hp:=mY (·.span) es.l [];simp only[List.nil_append]at hp;have sH:=hp.length_eq;unfold ym;refine .bind (lead_L0 es (by omega) w.1 w.2.1 w.2.2.1 w.2.2.2 hw.small hw.sA w.2.2.1.length (xJ _)) fun v hv=>?_;obtain⟨n,rfl,hnl⟩:=hv;refine .go (Xe _ _ hnl) ?_;refine .go (Xe _ _ (by rw[hw.Jx];exact hnl)) ?_;refine .go (Bl es (by omega)) ?_;have Tp:=hw.take n;have tQ: ∀e∈xV (·.span) [] es.l,Ew w.1.length e.span:=fun e he=>hE.XI e (hp.mem_iff.1 he);have hd0:tv ((xV (·.span) [] es.l).drop (xV (·.span) [] es.l).length)=0:=by simp[tv]
 have h:=lead_L2 n ⟨(xV (·.span) [] es.l).isEmpty,xV (·.span) [] es.l⟩ w.1.length (by omega) (by simp only;rw[Dm hp];exact hT) (fun e he=>by have:=tQ e he;unfold Ew at this;omega) hE.apart (by simp only;omega)
  (xV (·.span) [] es.l).length (w.1,w.2.1,w.2.2.1.take n,⟨w.2.2.2.nil,w.2.2.2.l.take n⟩) (xJ _) Tp (by simp;omega) (by simp only;rw[hd0];omega) (fun e he=>by have:=tQ e (List.mem_of_mem_take he);unfold Ew at this;exact this.2.2)
 rw[qI (n:=((xV (·.span) [] es.l).length:Int)-1) (by omega) (by omega)];refine .bind h fun u hu=> .ret ?_;change Led w es.l u;obtain⟨h1,h2,h3⟩:=hu;simp only[Dl hp]at h2;refine⟨h1,h2, ?_, ?_⟩
 ·have:=h3.len;exact tW
 intro j s' eN;have hj:=(qF eN).1;have hlen:=h3.len;simp only[List.length_take]at hlen;obtain⟨s,hs⟩:=gl (l:=w.2.2.1) (k:=j) (by omega);have XF:(w.2.2.1.take n)[j]? =some s:=by rw[List.getElem?_take_of_lt (by omega)];exact hs
 obtain⟨s2,k1,k2⟩:=h3.cur j s XF;exact tW
end Xr
namespace Xr
theorem lies_eq(s:ql)(l:Sl ql)(hL:l.l.length<2^60):uJ s l=some (l.l.any fun p=>decide (xo s p)):=by
 unfold uJ;rw[show (0:Int)=((0:Nat):Int)from rfl,Ty s l hL l.l 0 rfl];exact tW
theorem Kp{s:qc}(hs:jX s)(n:Int):(vU n s.insts.l).length<=2^24:=by
 have h1:=Qq hs.2;have h2:s.insts.l.length*2^12<=2^12*2^12:=Nat.mul_le_mul hs.1 (xJ _);have h3: ∀is:List qw,(vU n is).length<=many is:=by
  intro is;induction is with
  |nil=>simp[vU,many]
  |cons i is ih=>
   have:=VM n i.stops.l;simp only[vU,many,List.flatMap_cons,List.length_append,List.map_cons,List.sum_cons]at*
   omega
 have:=h3 s.insts.l;omega
structure SS (n:Int) (ss:List qc):Prop where
 sA:ss.length<=16
 small: ∀s∈ss,jX s
 may: ∀s∈ss,cw s.insts.l n
 stop: ∀s∈ss,∀ i∈s.insts.l,∀ x∈i.stops.l,me x
theorem cw.filter{is:List qw}{n:Int}(h:cw is n)(p:qw->Bool):cw (is.filter p) n:=by
 have hp:is.Pairwise fun i j=>i.span.to<=j.span.qO:=by
  rw[List.pairwise_iff_getElem];intro a b ha hb eM;exact h.D3 a b _ _ eM (kU ha) (kU hb)
 have hf:=hp.sublist (List.filter_sublist (l:=is) (p:=p));constructor
 ·intro a i hi;obtain⟨b,hb⟩:=jz (List.mem_filter.1 (qX hi)).1;exact h.may b i hb
 intro a b i j eM hi hj;have ha:=(qF hi).1;have hb:=(qF hj).1;have:=List.pairwise_iff_getElem.1 hf a b ha hb eM;exact tW
def Kt(ss:List qc)(i:Nat)(x:qw):Bool:=if i=0 then true else match ss[i-1]? with
 |some p=>(vU p.cur p.insts.l).any fun q=>decide (xo x.span q)
 |none=>false
theorem Aw(w:qa)(w2:Sl qx)(ss:List qc)(fl:Sl (Sl (Sl Int)))(hs: ∀s∈ss,jX s)(DF:ss.length<=16)(i:Nat)(hi:i<ss.length)(s:qc)(El:jX s): ∀(r:List qw)(a:Nat)(is:List qw),s.insts.l.drop a=r->is.length<=a->
  xk ((i:Int),(a:Int),w,w2,ss,fl,s,is)=some (is++r.filter (Kt ss i)):=by
 intro r;have nh:=El.1;induction r with
 |nil=>
  intro a is h _;have:=zc h;rw[xk.eq_1,if_neg (by simp;omega)];simp
 |cons x r ih=>
  intro a is h ho;obtain⟨h1,h2,h3⟩:=zp h;rw[xk.eq_1,if_pos (by simp;omega),ws (k:=a) (by omega)];have e1:=ih (a+1) (is++[x]) h2 (by simp;omega);have e2:=ih (a+1) is h2 (by omega);by_cases c:i=0
  ·subst c;rw[if_pos (by simp),gi h1];simp only[xe,z7];rw[if_pos qB,e1];simp[List.filter_cons,Kt]
  obtain⟨p,hp⟩:=gl (l:=ss) (k:=i-1) (by omega);have SZ:=hs p (qX hp);rw[if_neg (by simp;omega),gi h1];simp only[xe,z7];rw[show IntKind.i64.wrap ((i:Int)-1)=((i-1:Nat):Int)from by rw[qI (by omega) (by omega)];omega,gi hp];simp only[z7];rw[QH p.cur p.insts SZ.2 SZ.1];simp only[z7];have hsl:=Kp SZ p.cur;rw[lies_eq _ _ (by simp only;omega)];simp only[z7];have XF:Kt ss i x=(vU p.cur p.insts.l).any fun q=>decide (xo x.span q):=by
   unfold Kt;rw[if_neg c,hp]
  rw[List.filter_cons,XF];cases(vU p.cur p.insts.l).any fun q=>decide (xo x.span q)with
  |true=>
   rw[if_pos rfl,if_pos qB,e1];simp
  |false=>
   rw[if_neg (by simp),e2];simp
def UZ(k:Nat)(ss:List qc):Prop:= ∀(j:Nat) s,j<k->ss[j]? =some s->s.insts.l≠[]/\vU s.cur s.insts.l≠[]/\(0<j-> ∀p,ss[j-1]? =some p-> ∀x∈s.insts.l,lB x.span (vU p.cur p.insts.l))
def Curs(dK ss:List qc):Prop:=ss.length<=dK.length/\ ∀(j:Nat) s',ss[j]? =some s' -> ∃s,dK[j]? =some s/\s'.cur=s.cur
structure Fin (n:Int) (dK ss:List qc):Prop where
 ok:SS n ss
 closed:UZ ss.length ss
 Jm:Curs dK ss
theorem Av(n:Int)(w:qa)(w2:Sl qx)(fl:Sl (Sl (Sl Int)))(dK:List qc): ∀(d i:Nat)(ss:List qc),i+d=ss.length->SS n ss->UZ i ss->Curs dK ss->
  qG (jq ((i:Int),w,w2,ss,fl)) (fun v=>match v with| .inl y=>Fin n dK y.2| .inr y=>Fin n dK y):=by
 intro d;induction d with
 |zero=>
  intro i ss h H hc Yq;rw[jq.eq_1,if_neg (by simp;omega)];obtain rfl:i=ss.length:=by omega
  exact .ret ⟨H,hc,Yq⟩
 |succ d ih=>
  intro i ss h H hc Yq;have DF:=H.sA;obtain⟨s,hs⟩:=gl (l:=ss) (k:=i) (by omega);have tQ:=qX hs;have Qi:=H.small s tQ;rw[jq.eq_1,if_pos (by simp;omega),ws (k:=i) (by omega)];refine .go (gi hs) ?_;have e2:=Aw w w2 ss fl H.small DF i (by omega) s Qi s.insts.l 0 [] rfl (by simp);rw[List.nil_append,show((0:Nat):Int)=0 from rfl]at e2;refine .go e2 ?_;generalize hF:s.insts.l.filter (Kt ss i)=F;have hFs: ∀x∈F,x∈s.insts.l/\Kt ss i x=true:=fun x hx=>by rw[<- hF]at hx;exact List.mem_filter.1 hx
  have hFl:F.length<=s.insts.l.length:=by rw[<- hF];exact List.length_filter_le _ _
  have hsmF:jX ⟨s.cur,⟨F.isEmpty,F⟩⟩:=⟨by have:=Qi.1;simp only;omega,fun x hx=>Qi.2 x (hFs x hx).1⟩;refine .go (QH s.cur ⟨F.isEmpty,F⟩ hsmF.2 hsmF.1) ?_;by_cases ce:vU s.cur F=[]
  ·rw[if_pos (by simp[ce])];refine .go (Xe _ _ (by omega)) ?_;have tk: ∀(j:Nat) x,(ss.take i)[j]? =some x->j<i/\ss[j]? =some x:=fun j x hx=>by
    have:=(qF hx).1;simp at this;rw[List.getElem?_take_of_lt (by omega)]at hx;exact⟨by omega,hx⟩
   refine .ret ⟨⟨by simp;omega,fun s hs=>H.small s (List.mem_of_mem_take hs),fun s hs=>H.may s (List.mem_of_mem_take hs),fun s hs=>H.stop s (List.mem_of_mem_take hs)⟩, ?_,⟨by have:=Yq.1;simp;omega,fun j x hx=>Yq.2 j x (tk j x hx).2⟩⟩;intro j x hj hx;obtain⟨k1,k2⟩:=tk j x hx;obtain⟨q1,q2,q3⟩:=hc j x k1 k2;exact⟨q1,q2,fun hj0 p hp=>q3 hj0 p (tk (j-1) p hp).2⟩
  rw[if_neg (by simpa using ce),Int.toNat_natCast];have jv:F≠[]:=fun c=>ce (by rw[c];rfl);have qk: ∀(j:Nat) x,(ss.set i ⟨s.cur,⟨F.isEmpty,F⟩⟩)[j]? =some x->(j=i/\x=⟨s.cur,⟨F.isEmpty,F⟩⟩)\/(j≠i/\ss[j]? =some x):=fun j x hx=>by
   rw[xP]at hx;split at hx
   ·rename_i c;cases hx;exact .inl ⟨c.1.symm,rfl⟩
   rename_i c;refine .inr ⟨fun c2=>c ⟨c2.symm,by omega⟩,hx⟩
  refine ih (i+1) _ (by simp;omega) ⟨by simp;omega, ?_, ?_, ?_⟩ ?_ ⟨by have:=Yq.1;simp;omega, ?_⟩
  ·intro x hx;rcases List.mem_or_eq_of_mem_set hx with hx|rfl
   ·exact H.small x hx
   exact hsmF
  ·intro x hx;rcases List.mem_or_eq_of_mem_set hx with hx|rfl
   ·exact H.may x hx
   show cw F n;rw[<- hF];exact(H.may s tQ).filter _
  ·intro x hx;rcases List.mem_or_eq_of_mem_set hx with hx|rfl
   ·exact H.stop x hx
   exact fun y hy=>H.stop s tQ y (hFs y hy).1
  ·intro j x hj hx;rcases qk j x hx with ⟨rfl,rfl⟩|⟨hji,hx⟩
   ·refine⟨jv,ce,fun hj0 p hp y hy=>?_⟩;rw[xP,if_neg (by omega)]at hp;have:=(hFs y hy).2;unfold Kt at this;rw[if_neg (by omega),hp]at this;simpa[lB]using this
   obtain⟨q1,q2,q3⟩:=hc j x (by omega) hx;refine⟨q1,q2,fun hj0 p hp=>q3 hj0 p ?_⟩;rw[xP,if_neg (by omega)]at hp;exact hp
  intro j x hx;rcases qk j x hx with ⟨rfl,rfl⟩|⟨_,hx⟩
  ·exact(by
    obtain⟨s0,k1,k2⟩:=Yq.2 j s hs
    exact⟨s0,k1,k2⟩)
  exact Yq.2 j x hx
theorem WE(w:World)(hw:WO w):qG (vg w.1 w.2.1 w.2.2.1 w.2.2.2) (fun v=>match v with| .inl y=>Fin w.1.length w.2.2.1 y| .inr y=>Fin w.1.length w.2.2.1 y):=by
 unfold vg;refine .bind (Av w.1.length w.1 w.2.1 w.2.2.2 w.2.2.1 w.2.2.1.length 0 w.2.2.1 (by omega) ⟨hw.sA,hw.small,hw.may,hw.stop⟩ (fun j s hj=>by omega) ⟨xJ _,fun j s hs=>⟨s,hs,rfl⟩⟩) fun v hv=>?_;rcases v with v|v<;>exact .ret hv
end Xr
namespace Xr
def PU(l:List qu)(k:Nat):Prop:= ∀(r:Nat) x,r<k->l[r]? =some x-> -1<=x.up/\x.up<r/\ ∀(q:Nat) y,q<r->x.up<q->l[q]? =some y->x.up<=y.up
theorem Ey(l:Sl qu)(b:Nat): ∀a:Nat,a<l.l.length->PU l.l (a+1)-> ∃t:Bool,gq (l,(a:Int),(b:Int))=some (if t=true then .inl true else .inr ())/\(t=true↔b<a/\ ∀(q:Nat) y,b<q->q<=a->l.l[q]? =some y->(b:Int)<=y.up):=by
 intro a;induction a using Nat.strongRecOn with
 |_ a ih=>
 intro ha hp;obtain⟨x,hx⟩:=gl ha;obtain⟨p1,p2,p3⟩:=hp a x (by omega) hx;rw[gq.eq_1,if_pos (by simp;omega),gi hx];simp only[xe,z7];by_cases c0:0<=x.up
 ·obtain⟨u,hu⟩: ∃u:Nat,x.up=u:=⟨x.up.toNat,by omega⟩;rw[if_pos (by simpa using c0),if_pos (by simpa using p2)];by_cases c1:x.up=b
  ·rw[if_pos (by simpa using c1)];refine⟨true,rfl,fun _=>⟨by omega,fun q y h1 h2 hy=>?_⟩,fun _=>rfl⟩;by_cases c:q=a
   ·subst c;rw[hx]at hy;cases hy;omega
   have:=p3 q y (by omega) (by omega) hy;omega
  rw[if_neg (by simpa using c1),hu];obtain⟨t,g1,g2⟩:=ih u (by omega) (by omega) (fun r z hr hz=>hp r z (by omega) hz);refine⟨t,g1,g2.trans ⟨fun h=>⟨by omega,fun q y h1 h2 hy=>?_⟩,fun h=>?_⟩⟩
  ·by_cases c:q=a
   ·subst c;rw[hx]at hy;cases hy;omega
   by_cases c2:q<=u
   ·exact h.2 q y h1 c2 hy
   have:=p3 q y (by omega) (by omega) hy;omega
  have:=h.2 a x h.1 (xJ _) hx;exact⟨by omega,fun q y h1 h2 hy=>h.2 q y h1 (by omega) hy⟩
 rw[if_neg (by simpa using c0)];refine⟨false,rfl,fun h=>(by cases h),fun h=>?_⟩;have:=h.2 a x h.1 (xJ _) hx;omega
theorem in_ok(l:Sl qu)(a b:Nat)(ha:a<l.l.length)(hp:PU l.l (a+1)): ∃t:Bool,si l (a:Int) (b:Int)=some t/\(t=true↔b<a/\ ∀(q:Nat) y,b<q->q<=a->l.l[q]? =some y->(b:Int)<=y.up):=by
 obtain⟨t,h1,h2⟩:=Ey l b a ha hp;refine⟨t, ?_,h2⟩;unfold si;rw[h1];cases t<;>rfl
def Sibs(l:List qu)(x:qu)(j k:Nat):Prop:= ∀(q:Nat) y,j<=q->q<k->l[q]? =some y->y.up=x.up->y.span.to<=x.span.qO
theorem EV(i:qw)(x:qu)(b:ql)(k:Nat)(hk:k<=i.stops.l.length)(hl:i.stops.l.length<2^60): ∀(d j:Nat),j+d=k-> ∃t:Bool,jg ((k:Int),(j:Int),i,x,b)=some (if t=true then .inr ()else .inl false)/\(t=true↔Sibs i.stops.l x j k):=by
 intro d;induction d with
 |zero=>
  intro j h;rw[jg.eq_1,if_neg (by simp;omega)];exact⟨true,rfl,fun _ q y h1 h2=>by omega,fun _=>rfl⟩
 |succ d ih=>
  intro j h;obtain⟨y,hy⟩:=gl (l:=i.stops.l) (k:=j) (by omega);obtain⟨t,g1,g2⟩:=ih (j+1) (by omega);rw[jg.eq_1,if_pos (by simp;omega),gi hy,ws (k:=j) (by omega)];simp only[xe,z7,g1];by_cases c1:y.up=x.up
  ·by_cases c2:x.span.qO<y.span.to
   ·rw[if_pos (by simpa using c1),if_pos (by simpa using c2)];refine⟨false,rfl,fun h=>(by cases h),fun h=>?_⟩;have:=h j y (xJ _) (by omega) hy c1;omega
   rw[if_pos (by simpa using c1),if_neg (by simpa using c2)];refine⟨t,rfl,g2.trans ⟨fun h q z h1 h2 hz hu=>?_,fun h q z h1 h2 hz hu=>h q z (by omega) h2 hz hu⟩⟩;by_cases c:q=j
   ·subst c;rw[hy]at hz;cases hz;omega
   exact h q z (by omega) h2 hz hu
  rw[if_neg (by simpa using c1)];refine⟨t,rfl,g2.trans ⟨fun h q z h1 h2 hz hu=>?_,fun h q z h1 h2 hz hu=>h q z (by omega) h2 hz hu⟩⟩;by_cases c:q=j
  ·subst c;rw[hy]at hz;cases hz;exact absurd hu c1
  exact h q z (by omega) h2 hz hu
structure Good (i:qw) (k:Nat) (x:qu):Prop where
 up: -1<=x.up/\x.up<k
 pre: ∀(q:Nat) y,q<k->x.up<q->i.stops.l[q]? =some y->x.up<=y.up
 le:x.span.qO<=x.span.to
 top:x.up= -1->xo x.span i.span
 nest: ∀(p:Nat) y,x.up=p->i.stops.l[p]? =some y->xo x.span y.span
 N1:Sibs i.stops.l x 0 k
theorem Gr(i:qw)(k:Nat)(x:qu)(hx:i.stops.l[k]? =some x)(hl:i.stops.l.length<2^60)(hp:PU i.stops.l k): ∃t:Bool,xy ((k:Int),i)=(if t=true then xy (((k+1:Nat):Int),i)else some (.inl false))/\(t=true↔Good i k x):=by
 have hk:=(qF hx).1;have tail: ∀(b:ql),∃ t:Bool,(if decide (x.span.qO>x.span.to)=true then some (.inl false)else xl x.span b>>=fun v=>if(!v)=true then some (.inl false)else
   jg ((k:Int),(0:Int),i,x,b)>>=fun v=>match v with
    | .inl y=>some (.inl y)
    | .inr _=>xy (((k+1:Nat):Int),i))=(if t=true then xy (((k+1:Nat):Int),i)else some (.inl false))/\(t=true↔x.span.qO<=x.span.to/\xo x.span b/\Sibs i.stops.l x 0 k):=by
  intro b;by_cases c1:x.span.qO>x.span.to
  ·rw[if_pos (by simpa using c1)];exact⟨false,rfl,fun h=>(by cases h),fun h=>by omega⟩
  rw[if_neg (by simpa using c1),rA];simp only[xe,z7];by_cases c2:xo x.span b
  ·rw[if_neg (by simpa using c2)];obtain⟨t,g1,g2⟩:=EV i x b k (by omega) hl k 0 (by omega);rw[show ((0:Nat):Int)=0 from rfl]at g1;rw[g1];refine⟨t, ?_,g2.trans ⟨fun h=>⟨by omega,c2,h⟩,fun h=>h.2.2⟩⟩;cases t<;>rfl
  rw[if_pos (by simpa using c2)];exact⟨false,rfl,fun h=>(by cases h),fun h=>absurd h.2.1 c2⟩
 rw[xy.eq_1,if_pos (by simp;omega),gi hx,ws (k:=k) (by omega),qI (n:=(k:Int)-1) (by omega) (by omega)];simp only[xe,z7]at tail |-;by_cases hu:x.up= -1
 ·rw[if_neg (by simp[hu]),if_neg (by simp[hu])];obtain⟨t,g1,g2⟩:=tail i.span;refine⟨t,g1,g2.trans ⟨fun h=>⟨by omega,fun q y _ _ hy=>?_,h.1,fun _=>h.2.1,fun p y hpp=>by omega,h.2.2⟩,fun h=>⟨h.le,h.top hu,h.N1⟩⟩⟩;have:=(hp q y (by omega) hy).1;omega
 rw[if_pos (by simpa using hu)];by_cases hr:0<=x.up/\x.up<k
 ·obtain⟨p,hpu⟩: ∃p:Nat,x.up=p:=⟨x.up.toNat,by omega⟩;obtain⟨y,hy⟩:=gl (l:=i.stops.l) (k:=p) (by omega);have hgy:qi i.stops.l x.up=some y:=by rw[hpu];exact gi hy
  rw[if_neg (by simp;omega)];obtain⟨t,g1,g2⟩:=tail y.span;have conv:(x.span.qO<=x.span.to/\xo x.span y.span/\Sibs i.stops.l x 0 k)/\(∀(q:Nat) y,q<k->x.up<q->i.stops.l[q]? =some y->x.up<=y.up)↔Good i k x:=by
   constructor
   ·rintro⟨⟨a1,a2,a3⟩,a4⟩;refine⟨by omega,a4,a1,fun h=>absurd h hu,fun p' y' hp' hy' =>?_,a3⟩;obtain rfl:p=p' :=by omega
    rw[hy]at hy';cases hy';exact a2
   intro h;exact⟨⟨h.le,h.nest p y hpu hy,h.N1⟩,h.pre⟩
  by_cases h7:x.up=(k:Int)-1
  ·rw[if_neg (by simp[h7]),if_pos (by simp;omega),hgy];simp only[z7];exact⟨t,g1,g2.trans ⟨fun h=>conv.1 ⟨h,fun q y _ _=>by omega⟩,fun h=>(conv.2 h).1⟩⟩
  rw[if_pos (by simpa using h7)];obtain⟨t2,q1,q2⟩:=in_ok i.stops (k-1) p (by omega) (fun r z Lv hz=>hp r z (by omega) hz);rw[show (k:Int)-1=((k-1:Nat):Int) by omega,hpu,q1];simp only[z7];cases t2 with
  |false=>
   rw[if_pos (by simp)];refine⟨false,rfl,fun h=>(by cases h),fun h=>?_⟩;have:=q2.2 ⟨by omega,fun q z h1 h2 hz=>by have:=h.pre q z (by omega) (by omega) hz;omega⟩;cases this
  |true=>
   have q3:=q2.1 rfl;rw[if_neg (by simp),if_pos (by simp),<- hpu,hgy];simp only[z7];exact⟨t,g1,g2.trans ⟨fun h=>conv.1 ⟨h,fun q z h1 h2 hz=>by have:=q3.2 q z (by omega) (by omega) hz;omega⟩,fun h=>(conv.2 h).1⟩⟩
 rw[if_pos (by simp only[Bool.or_eq_true,decide_eq_true_eq];omega)];exact⟨false,rfl,fun h=>(by cases h),fun h=>by have:=h.up;omega⟩
theorem EU(i:qw)(hl:i.stops.l.length<2^60): ∀(d k:Nat),k+d=i.stops.l.length->PU i.stops.l k-> ∃t:Bool,xy ((k:Int),i)=some (if t=true then .inr ()else .inl false)/\(t=true↔ ∀(r:Nat) x,k<=r->i.stops.l[r]? =some x->Good i r x):=by
 intro d;induction d with
 |zero=>
  intro k h _;rw[xy.eq_1,if_neg (by simp;omega)];exact⟨true,rfl,fun _ r x hr hx=>by have:=(qF hx).1;omega,fun _=>rfl⟩
 |succ d ih=>
  intro k h hp;obtain⟨x,hx⟩:=gl (l:=i.stops.l) (k:=k) (by omega);obtain⟨t,g1,g2⟩:=Gr i k x hx hl hp;rw[g1];cases t with
  |false=>
   rw[if_neg (by simp)];refine⟨false,rfl,fun h=>(by cases h),fun h=>?_⟩;have:=g2.2 (h k x (xJ _) hx);cases this
  |true=>
   rw[if_pos (by simp)];have hg:=g2.1 rfl;obtain⟨t2,q1,q2⟩:=ih (k+1) (by omega) (fun r z hr hz=>by
    by_cases c:r=k
    ·subst c
     rw[hx]at hz
     cases hz
     exact⟨hg.up.1,hg.up.2,hg.pre⟩
    exact hp r z (by omega) hz)
   refine⟨t2,q1,q2.trans ⟨fun h r z hr hz=>?_,fun h r z hr hz=>h r z (by omega) hz⟩⟩;by_cases c:r=k
   ·subst c;rw[hx]at hz;cases hz;exact hg
   exact h r z (by omega) hz
theorem EW(i:qw)(n:Int)(hl:i.stops.l.length<2^60): ∃t:Bool,az i n=some t/\(t=true↔VS i n):=by
 obtain⟨b,g1,g2⟩:=TB i.span n;obtain⟨t,q1,q2⟩:=EU i hl i.stops.l.length 0 (by omega) (fun r x hr=>by omega);rw[show ((0:Nat):Int)=0 from rfl]at q1;unfold az;rw[g1];simp only[xe,z7];cases b with
 |false=>
  refine⟨false,rfl,fun h=>(by cases h),fun h=>?_⟩;have:=g2.2 h.QN;cases this
 |true=>
  rw[if_neg (by simp),q1];refine⟨t,by cases t<;>rfl,q2.trans ⟨fun h=>?_,fun h r x _ hx=>?_⟩⟩
  ·exact⟨g2.1 rfl,fun k x hx=>(h k x (by omega) hx).up,fun k x hx=>(h k x (by omega) hx).le,fun k x hx hu=>by have:=(h k x (by omega) hx).top hu;unfold xo at this;exact this,fun k x hx p y hp hy=>by have:=(h k x (by omega) hx).nest p y hp hy;unfold xo at this;exact this,
    fun k x hx j y hj hy hu=>(h k x (by omega) hx).N1 j y (by omega) hj hy hu,fun k x hx q y hq hu hy=>(h k x (by omega) hx).pre q y hq hu hy⟩
  exact⟨h.up r x hx,fun q y hq hu hy=>h.pre r x hx q y hq hu hy,h.le r x hx,fun hu=>h.top r x hx hu,fun p y hp hy=>h.nest r x hx p y hp hy,fun j y _ hj hy hu=>h.N1 r x hx j y hj hy hu⟩
end Xr
namespace Xr
def PS(ss:List qc):Prop:= ∀(j:Nat) s,ss[j]? =some s->s.insts.l≠[]/\(0<j-> ∀p,ss[j-1]? =some p-> ∀x∈s.insts.l,lB x.span (vU p.cur p.insts.l))
structure MayP (st:qr):Prop where
 text:st.text.length<=65536
 sA:st.qj.l.length<=8
 ne:st.xF.l≠[]
 Wg:st.xF.l.length<=64
 XI:JO st.text.length st.xF.l
 T4:PQ st.xF.l
 may: ∀s∈st.qj.l,cw s.insts.l st.text.length
 lies:PS st.qj.l
theorem EX(l:Sl qx)(st:qr)(hl:l.l.length=st.xF.l.length)(h60:l.l.length<2^60): ∀(d i:Nat),i+d=l.l.length-> ∃t:Bool,gS (l,(i:Int),st)=some (if t=true then .inr ()else .inl false)/\(t=true↔l.l.drop i=st.xF.l.drop i):=by
 intro d;induction d with
 |zero=>
  intro i h;rw[gS.eq_1,if_neg (by simp;omega)];refine⟨true,rfl,fun _=>?_,fun _=>rfl⟩;rw[List.drop_of_length_le (by omega),List.drop_of_length_le (by omega)]
 |succ d ih=>
  intro i h;obtain⟨x,hx⟩:=gl (l:=l.l) (k:=i) (by omega);obtain⟨y,hy⟩:=gl (l:=st.xF.l) (k:=i) (by omega);obtain⟨t,g1,g2⟩:=ih (i+1) (by omega);have ex:l.l.drop i=x::l.l.drop (i+1):=by
   have hk:=(qF hx).1;rw[List.drop_eq_getElem_cons hk];rw[kU hk]at hx;cases hx;rfl
  have ey:st.xF.l.drop i=y::st.xF.l.drop (i+1):=by
   have hk:=(qF hy).1;rw[List.drop_eq_getElem_cons hk];rw[kU hk]at hy;cases hy;rfl
  rw[gS.eq_1,if_pos (by simp;omega),gi hx,ws (k:=i) (by omega),ex,ey];simp only[xe,z7];rw[gi hy];simp only[z7,g1];cases x with
  |mk xa xh=>
  cases y with
  |mk ya yh=>
  by_cases c:xa=ya/\xh=yh
  ·obtain⟨rfl,rfl⟩:=c;rw[if_neg (by simp)];exact⟨t,rfl,g2.trans ⟨fun h=>by rw[h],fun h=>by simpa using h⟩⟩
  rw[if_pos (by simp;omega)];refine⟨false,rfl,fun h=>(by cases h),fun h=>?_⟩;simp only[List.cons.injEq,qx.mk.injEq]at h;exact absurd h.1 c
def H4(st:qr)(i:Nat)(is:List qw)(k:Nat)(x:qw):Prop:=
 VS x st.text.length/\(0<k-> ∀y,is[k-1]? =some y->y.span.to<=x.span.qO)/\(0<i-> ∀p,st.qj.l[i-1]? =some p->lB x.span (vU p.cur p.insts.l))
theorem EZ(st:qr)(El: ∀s∈st.qj.l,jX s)(h60:st.qj.l.length<2^60)(i:Nat)(hi:i<st.qj.l.length)(is:Sl qw)(his:is.l.length<=2^12)(XF: ∀x∈is.l,x.stops.l.length<=2^12):
  ∀(d k:Nat),k+d=is.l.length-> ∃t:Bool,k9 ((i:Int),is,(k:Int),st)=some (if t=true then .inr ()else .inl false)/\(t=true↔ ∀(r:Nat) x,k<=r->is.l[r]? =some x->H4 st i is.l r x):=by
 intro d;induction d with
 |zero=>
  intro k h;rw[k9.eq_1,if_neg (by simp;omega)];exact⟨true,rfl,fun _ r x hr hx=>by have:=(qF hx).1;omega,fun _=>rfl⟩
 |succ d ih=>
  intro k h;obtain⟨x,hx⟩:=gl (l:=is.l) (k:=k) (by omega);obtain⟨t,g1,g2⟩:=ih (k+1) (by omega);have hxs:=XF x (qX hx);obtain⟨b,m1,m2⟩:=EW x (st.text.length:Int) (by omega);have split: ∀(P:Prop),(P↔H4 st i is.l k x)->((P/\ ∀(r:Nat) z,k+1<=r->is.l[r]? =some z->H4 st i is.l r z)↔ ∀(r:Nat) z,k<=r->is.l[r]? =some z->H4 st i is.l r z):=by
   intro P hP;rw[hP];constructor
   ·intro h r z hr hz;by_cases c:r=k
    ·subst c;rw[hx]at hz;cases hz;exact h.1
    exact h.2 r z (by omega) hz
   exact fun h=>⟨h k x (xJ _) hx,fun r z hr hz=>h r z (by omega) hz⟩
  have tail: ∃q:Bool,(if (decide ((i:Int)>(0:Int)))=true then
     qi st.qj.l (IntKind.i64.wrap ((i:Int)-(1:Int)))>>=fun Uw=>
     km Uw.cur Uw.insts>>=fun vK=>
     uJ x.span vK>>=fun eK=>
     if(!eK)=true then some (.inl false)else k9 ((i:Int),is,((k+1:Nat):Int),st)
    else k9 ((i:Int),is,((k+1:Nat):Int),st))=some (if q=true then .inr ()else .inl false)/\
    (q=true↔(0<i-> ∀p,st.qj.l[i-1]? =some p->lB x.span (vU p.cur p.insts.l))/\t=true):=by
   by_cases c:0<i
   ·obtain⟨p,hp⟩:=gl (l:=st.qj.l) (k:=i-1) (by omega);have SZ:=El p (qX hp);have hsl:=Kp SZ p.cur;obtain⟨u,l1,l2⟩:=lies_ok x.span ⟨(vU p.cur p.insts.l).isEmpty,vU p.cur p.insts.l⟩ (by simp only;omega);rw[if_pos (by simpa using c),show IntKind.i64.wrap ((i:Int)-1)=((i-1:Nat):Int)from by rw[qI (by omega) (by omega)];omega,gi hp];simp only[xe,z7];rw[QH p.cur p.insts SZ.2 SZ.1];simp only[z7,l1];cases u with
    |false=>
     rw[if_pos (by simp)];refine⟨false,rfl,fun h=>(by cases h),fun h=>?_⟩;have:=l2.2 (h.1 c p hp);cases this
    |true=>
     rw[if_neg (by simp),g1];refine⟨t,rfl,fun h=>⟨fun _ p' hp' =>?_,h⟩,fun h=>h.2⟩;rw[hp]at hp';cases hp';exact l2.1 rfl
   rw[if_neg (by simpa using c),g1];exact⟨t,rfl,fun h=>⟨fun h0=>absurd h0 c,h⟩,fun h=>h.2⟩
  obtain⟨q,q1,q2⟩:=tail;rw[k9.eq_1,if_pos (by simp;omega),gi hx,ws (k:=k) (by omega)];simp only[xe,z7,m1]at q1 |-;cases b with
  |false=>
   rw[if_pos (by simp)];refine⟨false,rfl,fun h=>(by cases h),fun h=>?_⟩;have:=m2.2 (h k x (xJ _) hx).1;cases this
  |true=>
   have hm:=m2.1 rfl;rw[if_neg (by simp)];by_cases c:0<k
   ·obtain⟨y,hy⟩:=gl (l:=is.l) (k:=k-1) (by omega);rw[if_pos (by simpa using c),show IntKind.i64.wrap ((k:Int)-1)=((k-1:Nat):Int)from by rw[qI (by omega) (by omega)];omega,gi hy];simp only[z7];by_cases c2:x.span.qO<y.span.to
    ·rw[if_pos (by simpa using c2)];refine⟨false,rfl,fun h=>(by cases h),fun h=>?_⟩;have:=(h k x (xJ _) hx).2.1 c y hy;omega
    rw[if_neg (by simpa using c2),q1];refine⟨q,rfl,q2.trans ?_⟩;rw[g2];refine split _ ⟨fun h=>⟨hm,fun _ z hz=>?_,h⟩,fun h=>h.2.2⟩;rw[hy]at hz;cases hz;omega
   rw[if_neg (by simpa using c),q1];refine⟨q,rfl,q2.trans ?_⟩;rw[g2];exact split _ ⟨fun h=>⟨hm,fun h0=>absurd h0 c,h⟩,fun h=>h.2.2⟩
theorem rise_of{is:List qw}{n:Int}(h: ∀(k:Nat) x,is[k]? =some x->VS x n/\(0<k-> ∀y,is[k-1]? =some y->y.span.to<=x.span.qO)):cw is n:=by
 have hc:=Jj (is.map (·.span)) fun j p hp=>by
  rw[List.getElem?_map,yi]at hp;obtain⟨x,hx,rfl⟩:=hp;refine⟨(h j x hx).1.QN.2.1,fun y h0 hy=>?_⟩;rw[List.getElem?_map,yi]at hy;obtain⟨z,hz,rfl⟩:=hy;exact(h j x hx).2 h0 z hz
 rw[List.pairwise_map]at hc;refine⟨fun a i hi=>(h a i hi).1,fun a b i j eM hi hj=>?_⟩;have ha:=(qF hi).1;have hb:=(qF hj).1;have:=List.pairwise_iff_getElem.1 hc a b ha hb eM;rw[kU ha]at hi;rw[kU hb]at hj;cases hi;cases hj;exact this
def GoodS(st:qr)(i:Nat)(s:qc):Prop:=s.insts.l≠[]/\ ∀(r:Nat) x,s.insts.l[r]? =some x->H4 st i s.insts.l r x
theorem EY(st:qr)(El: ∀s∈st.qj.l,jX s)(h60:st.qj.l.length<2^60): ∀(d i:Nat),i+d=st.qj.l.length-> ∃t:Bool,gT ((i:Int),st)=some (if t=true then .inr ()else .inl false)/\(t=true↔ ∀(r:Nat) s,i<=r->st.qj.l[r]? =some s->GoodS st r s):=by
 intro d;induction d with
 |zero=>
  intro i h;rw[gT.eq_1,if_neg (by simp;omega)];exact⟨true,rfl,fun _ r s hr hs=>by have:=(qF hs).1;omega,fun _=>rfl⟩
 |succ d ih=>
  intro i h;obtain⟨s,hs⟩:=gl (l:=st.qj.l) (k:=i) (by omega);obtain⟨t,g1,g2⟩:=ih (i+1) (by omega);have Qi:=El s (qX hs);rw[gT.eq_1,if_pos (by simp;omega),gi hs,ws (k:=i) (by omega)];simp only[xe,z7];by_cases c:s.insts.l=[]
  ·rw[if_pos (by simp[c])];refine⟨false,rfl,fun h=>(by cases h),fun h=>?_⟩;exact absurd c (h i s (xJ _) hs).1
  obtain⟨u,u1,u2⟩:=EZ st El h60 i (by omega) s.insts Qi.1 Qi.2 s.insts.l.length 0 (by omega);rw[show ((0:Nat):Int)=0 from rfl]at u1;rw[if_neg (by simpa using c),u1];simp only[z7];cases u with
  |false=>
   refine⟨false,rfl,fun h=>(by cases h),fun h=>?_⟩;have:=u2.2 fun r x _ hx=>(h i s (xJ _) hs).2 r x hx;cases this
  |true=>
   refine⟨t,g1,g2.trans ⟨fun h r z hr hz=>?_,fun h r z hr hz=>h r z (by omega) hz⟩⟩;by_cases c2:r=i
   ·subst c2;rw[hs]at hz;cases hz;exact⟨c,fun r x hx=>u2.1 rfl r x (by omega) hx⟩
   exact h r z (by omega) hz
theorem Gs(st:qr)(El: ∀s∈st.qj.l,jX s)(hq:st.xF.l.length<2^60): ∃t:Bool,hC st=some t/\(t=true↔MayP st):=by
 unfold hC;by_cases c:st.text.length<=65536/\st.qj.l.length<=8
 ·rw[if_neg (by simp;omega)];obtain⟨q,co,n1,n2⟩:=TH (st.text.length:Int) st.xF hq;rw[n1];simp only[xe,z7];rcases n2 with ⟨rfl,n3,n4,n5,rfl⟩|⟨n3,rfl,n4⟩
  ·have JH:=lC _ _ n5;by_cases c2:(bV st.xF.l).length=st.xF.l.length
   ·rw[if_neg (by simp;omega)];obtain⟨t,g1,g2⟩:=EX ⟨(bV st.xF.l).isEmpty,bV st.xF.l⟩ st c2 (by simp only;omega) _ 0 (Nat.zero_add _);rw[show ((0:Nat):Int)=0 from rfl]at g1;rw[g1];cases t with
    |false=>
     refine⟨false,rfl,fun h=>(by cases h),fun h=>?_⟩;have:=g2.2 (by simp only[List.drop_zero];exact Vb _ h.T4);cases this
    |true=>
     have hid:=g2.1 rfl;simp only[List.drop_zero]at hid;obtain⟨u,u1,u2⟩:=EY st El (by omega) _ 0 (Nat.zero_add _);rw[show ((0:Nat):Int)=0 from rfl]at u1;simp only[if_true,z7,u1];refine⟨u,by cases u<;>rfl,u2.trans ⟨fun h=>⟨c.1,c.2,n3,n4,n5,hid ▸ JH.1,fun s hs=>?_,fun j s hs=>?_⟩,fun h r s _ hs=>?_⟩⟩
     ·obtain⟨j,hj⟩:=jz hs;exact rise_of fun k x hx=>⟨((h j s (by omega) hj).2 k x hx).1,((h j s (by omega) hj).2 k x hx).2.1⟩
     ·refine⟨(h j s (by omega) hs).1,fun h0 p hp x hx=>?_⟩;obtain⟨k,hk⟩:=jz hx;exact((h j s (by omega) hs).2 k x hk).2.2 h0 p hp
     have hm:=h.may s (qX hs);have hl:=h.lies r s hs;exact⟨hl.1,fun k x hx=>⟨hm.may k x hx,fun h0 y hy=>hm.D3 (k-1) k y x (by omega) hy hx,fun h0 p hp=>hl.2 h0 p hp x (qX hx)⟩⟩
   rw[if_pos (by simp only[Bool.or_eq_true,bne_iff_ne,ne_eq];omega)];refine⟨false,rfl,fun h=>(by cases h),fun h=>?_⟩;exact absurd (congrArg List.length (Vb _ h.T4)) c2
  rw[if_pos (by simp[n3])];exact⟨false,rfl,fun h=>(by cases h),fun h=>absurd ⟨h.ne,h.Wg,h.XI⟩ n4⟩
 rw[if_pos (by simp;omega)];exact⟨false,rfl,fun h=>(by cases h),fun h=>absurd ⟨h.text,h.sA⟩ c⟩
end Xr
namespace Xr
def zfl(i:qw):Sl Int:=⟨false,List.replicate i.stops.l.length (0:Int)⟩
theorem HT(s:qc)(hs:jX s): ∀(r:List qw)(a:Nat)(out:List (Sl Int)),s.insts.l.drop a=r->out.length=a->kM ((a:Int),s,⟨out.isEmpty,out⟩)=some ⟨(out++r.map zfl).isEmpty,out++r.map zfl⟩:=by
 intro r;have nh:=hs.1;induction r with
 |nil=>
  intro a out h _;have:=zc h;rw[kM.eq_1,if_neg (by simp;omega)];simp
 |cons i r ih=>
  intro a out h ho;obtain⟨h1,h2,h3⟩:=zp h;have hi:=hs.2 i (qX h1);rw[kM.eq_1,if_pos (by simp;omega),gi h1,ws (k:=a) (by omega)];simp only[xe,z7];rw[if_pos (by omega),if_pos qB,if_pos qB];have:=ih (a+1) (out++[zfl i]) h2 (by simp;omega);rw[show (out++[zfl i]).isEmpty=false from by simp]at this;simp only[zfl,Int.toNat_natCast]at this |-;rw[this];simp[zfl]
theorem ZG(s:qc)(hs:jX s): ∃f,hK s=some f/\fp s.insts.l f:=by
 refine⟨⟨(s.insts.l.map zfl).isEmpty,s.insts.l.map zfl⟩, ?_,by simp,by simp,fun a i f hi hf=>?_⟩
 ·unfold hK;have:=HT s hs s.insts.l 0 [] rfl rfl;exact tW
 simp only[List.getElem?_map,hi,Option.map_some,kX]at hf;subst hf;refine⟨by simp[zfl],fun _=>rfl,fun v hv=>?_⟩;have:=(List.mem_replicate.1 hv).2;omega
theorem Ai(st:qr)(hs: ∀s∈st.qj.l,jX s)(DF:st.qj.l.length<=16)(q:List qx)(ss:List qc)(w:qa): ∀(r:List qc)(i:Nat)(out:List (Sl (Sl Int))),st.qj.l.drop i=r->out.length=i->
  ∃fs:List (Sl (Sl Int)),yL ((i:Int),st,q,ss,w,⟨out.isEmpty,out⟩)=some ⟨(out++fs).isEmpty,out++fs⟩/\fs.length=r.length/\ ∀(j:Nat) s f,r[j]? =some s->fs[j]? =some f->fp s.insts.l f:=by
 intro r;induction r with
 |nil=>
  intro i out h _;have:=zc h;rw[yL.eq_1,if_neg (by simp;omega)];exact⟨[],by simp,rfl,fun j s f hs=>by simp at hs⟩
 |cons s r ih=>
  intro i out h ho;obtain⟨h1,h2,h3⟩:=zp h;obtain⟨f,f1,f2⟩:=ZG s (hs s (qX h1));rw[yL.eq_1,if_pos (by simp;omega),gi h1,ws (k:=i) (by omega)];simp only[xe,z7,f1];rw[if_pos qB];obtain⟨fs,g1,g2,g3⟩:=ih (i+1) (out++[f]) h2 (by simp;omega);rw[show (out++[f]).isEmpty=false from by simp]at g1;refine⟨f::fs, ?_,by simp[g2],fun j s' f' eN Ys=>?_⟩
  ·rw[show (⟨f.nil,f.l⟩:Sl (Sl Int))=f from rfl,g1];simp
  cases j with
  |zero=>
   simp only[List.getElem?_cons_zero,kX]at eN Ys;subst eN Ys;exact f2
  |succ j=>exact g3 j s' f' (by simpa using eN) (by simpa using Ys)
structure wR (st:qr):Prop where
 may:MayP st
 small: ∀s∈st.qj.l,jX s
 stop: ∀s∈st.qj.l,∀ i∈s.insts.l,∀ x∈i.stops.l,me x
 Jm: ∀s∈st.qj.l,vU s.cur s.insts.l≠[]
theorem Hx(st:qr)(h:wR st): ∃fl,pw st=some (st.text,⟨false,st.xF.l⟩,st.qj.l,fl)/\WK (st.text,⟨false,st.xF.l⟩,st.qj.l,fl):=by
 have h8:=h.may.sA;have h64:=h.may.Wg;have ht:=h.may.text;obtain⟨fs,g1,g2,g3⟩:=Ai st h.small (by omega) st.xF.l st.qj.l st.text st.qj.l 0 [] rfl rfl;rw[show ((0:Nat):Int)=0 from rfl]at g1;simp only[List.isEmpty_nil,List.nil_append]at g1;refine⟨⟨fs.isEmpty,fs⟩, ?_,⟨⟨by simp only;omega,h.may.ne,h64,h.may.T4,h.may.XI,by simp only;omega,h.small,h.may.may,g2,fun c=>?_,g3,h.stop⟩,ht⟩⟩
 ·unfold pw;rw[if_pos qB,if_pos qB,g1];rfl
 exact tW
theorem sum_fit{n:Nat}{es:List qo}(hn:n<=65536)(hl:es.length<=2^19)(h:Xw n es)(h2:(n:Int)+tv es<=65536):wu es<=2^36:=by
 have h3:=sumT_sp (by omega) es h.XI;have h4:es.length*n<=2^19*65536:=Nat.mul_le_mul hl hn;exact tW
def Less(st st' :qr):Prop:=Curs st.qj.l st'.qj.l
theorem HO(st:qr)(h:wR st)(es:Sl qo)(hl:es.l.length<=2^19)(hT:wu es.l<=2^60):qG (t7 st es) (fun v=>v.2≠0\/v.2=0/\wR v.1/\Less st v.1):=by
 have ht:=h.may.text;have h8:=h.may.sA;obtain⟨t,m1,m2⟩:=Gs st h.small (by have:=h.may.Wg;omega);obtain rfl:=m2.2 h.may;unfold t7;refine .go m1 ?_;rw[if_neg (by simp)];refine .bind (TC (st.text.length:Int) (by omega) es hl hT) fun c hc=>?_;refine .ite (fun c0=> .ret (.inl (by simpa using c0))) fun c0=>?_;obtain⟨e1,e2⟩:=hc (by simpa using c0);have hT2:wu es.l<=2^36:=sum_fit ht hl e1 e2;obtain⟨fl,b1,b2⟩:=Hx st h;refine .go b1 ?_;refine .bind (rT (st.text,⟨false,st.xF.l⟩,st.qj.l,fl) b2.ok ht es e1 hT2 hl) fun w hw=>?_;have hwt:=hw.text;refine .bind (K0 w ⟨hw.ok,by simp only at hwt;omega⟩) fun u hu=>?_;refine .ite (fun c1=> .ret (.inl (by simpa using c1))) fun c1=>?_;rcases hu with hu|⟨_,hu,hlk⟩
 ·exact absurd (by simpa using c1) hu
 have ZF: ∀y,Fin u.2.1.length u.2.2.2.1 y->wR ⟨u.2.1,u.2.2.1,⟨false,y⟩⟩/\Less st ⟨u.2.1,u.2.2.1,⟨false,y⟩⟩:=by
  intro y hy;have SQ:=hlk.len;have hwl:=hw.len;have lW:=hy.Jm.1;simp only at SQ hwl lW;refine⟨⟨⟨hu.text,by simp only;omega,hu.ok.ne,hu.ok.Wg,hu.ok.XI,hu.ok.T4,hy.ok.may,fun j s hs=>?_⟩,hy.ok.small,hy.ok.stop,fun s hs=>?_⟩,⟨by simp only;omega,fun j s' eN=>?_⟩⟩
  ·have:=hy.closed j s (qF hs).1 hs;exact⟨this.1,this.2.2⟩
  ·obtain⟨j,hj⟩:=jz hs;exact(hy.closed j s (qF hj).1 hj).2.1
  obtain⟨s2,k1,k2⟩:=hy.Jm.2 j s' eN;obtain⟨s1,k3⟩:=gl (l:=w.2.2.1) (k:=j) (by have h9:j<u.2.2.2.1.length:=(qF k1).1;omega);obtain⟨s3,k4,k5⟩:=hlk.cur j s1 k3;have k1' :u.2.2.2.1[j]? =some s2:=k1;have k4' :u.2.2.2.1[j]? =some s3:=k4;rw[k1']at k4';cases k4';obtain⟨s0,k6,k7⟩:=hw.cur j s1 k3;exact⟨s0,k6,k2.trans (k5.trans k7)⟩
 refine .bind (WE u.2 hu.ok) fun v hv=>?_;rcases v with y|y
 ·exact .ret (.inr ⟨rfl,ZF y hv⟩)
 exact .ret (.inr ⟨rfl,ZF y hv⟩)
end Xr
namespace Xr
theorem wi{n:Int}(h: -9223372036854775808<=n:=by omega)(h2:n<=9223372036854775807:=by omega):IntKind.i64.wrap n=n:=qI h h2
def isB(b:UInt8):Bool:=(b.toNat:Int)==10
def Xx(s:qa):Nat:=s.countP isB
theorem Nt(s:qa):Xx s<=s.length:=List.countP_le_length
theorem Ak(b:UInt8)(s:qa):(Xx (b::s):Int)=Xx s+if isB b=true then 1 else 0:=by
 unfold Xx;rw[List.countP_cons];split<;>simp
structure PW (i:Nat) (t:qU):Prop where
 a:0<=t.bytes/\t.bytes<=i
 b:0<=t.breaks/\t.breaks<=i
 c:0<=t.dA/\t.dA<=i
 d:0<=t.sP/\t.sP<=2*i
theorem of_L0(s:qa)(hs:s.length<=2^40)(t2:qU): ∀(r:qa)(i:Nat)(t:qU),s.drop i=r->i+r.length=s.length->PW i t->
  qG (kN (s,(i:Int),t2,t)) (fun v=>v.breaks=t.breaks+Xx r/\PW s.length v):=by
 intro r;induction r with
 |nil=>
  intro i t h hi ht;have:=zc h;rw[kN.eq_1,if_neg (by simp;omega)];simp only[List.length_nil,Nat.add_zero]at hi;exact .ret ⟨by simp[Xx],hi ▸ ht⟩
 |cons b r ih=>
  intro i t h hi ht;simp only[List.length_cons]at hi;obtain⟨h1,h2,h3⟩:=zp h;have⟨p1,p2⟩:=ht.a;have⟨p3,p4⟩:=ht.b;have⟨p5,p6⟩:=ht.c;have⟨p7,p8⟩:=ht.d;rw[kN.eq_1,if_pos (by simp;omega),ws (by omega)];refine .go (gi h1) ?_;rw[wi (n:=t.bytes+1),wi (n:=t.breaks+1),wi (n:=t.dA+1),wi (n:=t.sP+1),wi (n:=t.sP+1+1)];have hb:=Ak b r;refine .ite (fun c=>?_) fun c=>?_
  ·rw[if_pos (show isB b=true from c)]at hb;refine .bind (Go.Proofs.YtmllebdamdnhoaaGreat.rT b) fun v _=>?_;refine .ite (fun _=>qG.ite (fun _=>?_) fun _=>?_) fun _=>qG.ite (fun _=>?_) fun _=>?_;all_goals exact .mono (ih (i+1) _ h2 (by omega) ⟨by simp only;omega,by simp only;omega,by simp only;omega,by simp only;omega⟩) fun v hv=>⟨by have:=hv.1;simp only at this;omega,hv.2⟩
  rw[if_neg (show ¬isB b=true by unfold isB;simp[c])]at hb;refine .bind (Go.Proofs.YtmllebdamdnhoaaGreat.rT b) fun v _=>?_;refine .ite (fun _=>qG.ite (fun _=>?_) fun _=>?_) fun _=>qG.ite (fun _=>?_) fun _=>?_;all_goals exact .mono (ih (i+1) _ h2 (by omega) ⟨by simp only;omega,by simp only;omega,by simp only;omega,by simp only;omega⟩) fun v hv=>⟨by have:=hv.1;simp only at this;omega,hv.2⟩
theorem Zk(s:qa)(hs:s.length<=2^40):qG (eB s) (fun v=>v.breaks=Xx s/\PW s.length v):=by
 unfold eB;refine .bind (of_L0 s hs _ s 0 ⟨0,0,0,0⟩ rfl (by simp) ⟨by simp,by simp,by simp,by simp⟩) fun v hv=>?_;exact .ret ⟨by have:=hv.1;simp only at this;omega,hv.2⟩
theorem Al(t:qU)(n:Nat)(h:PW n t):qG (uT t 1) (fun v=>0<=v/\v<=n):=by
 unfold uT;rw[if_neg (by decide),if_pos (by decide)];exact .ret h.c
theorem Nq(s:qa)(hs:s.length<=2^40)(off:Int):qG (sT s off) (fun v=>(v.2=0/\0<=off/\off<=s.length/\v.1=Xx (s.take off.toNat))\/(v.2≠0/\v.1=0/\ ¬(0<=off/\off<=s.length))):=by
 unfold sT;refine .ite (fun c=> .ret (.inr ⟨by decide,rfl, ?_⟩)) fun c=>?_
 ·simp only[Bool.or_eq_true,decide_eq_true_eq]at c;omega
 simp only[Bool.or_eq_true,decide_eq_true_eq,not_or]at c;refine .bind .kx fun r hr=>?_;obtain⟨rfl,h2⟩:=hr;refine .bind (Zk _ (by rw[List.length_take];omega)) fun v hv=>?_;exact .ret (.inl ⟨rfl,by omega,by omega,hv.1⟩)
def X4:qa->Nat->List Int
 |[],_=>[]
 |b::r,i=>if isB b=true then((i+1:Nat):Int)::X4 r (i+1)else X4 r (i+1)
theorem Dg(s:qa)(hs:s.length<=2^28): ∀(r:qa)(i:Nat)(l:List Int),s.drop i=r->l.length<=i+1->wP (s,(i:Int),l)=some (l++X4 r i):=by
 intro r;induction r with
 |nil=>
  intro i l h _;have:=zc h;rw[wP.eq_1,if_neg (by simp;omega)];simp[X4]
 |cons b r ih=>
  intro i l h hl;obtain⟨h1,h2,h3⟩:=zp h;rw[wP.eq_1,if_pos (by simp;omega),gi h1,ws (by omega)];simp only[xe,z7];by_cases c:isB b=true
  ·rw[if_pos (show ((b.toNat:Int)==10)=true from c),if_pos qB,ih (i+1) _ h2 (by simp;omega)];simp[X4,c]
  rw[if_neg (show ¬((b.toNat:Int)==10)=true from c),ih (i+1) _ h2 (by omega)];simp[X4,c]
theorem VP(s:qa)(hs:s.length<=2^28):nD s=some ⟨false,0::X4 s 0⟩:=by
 unfold nD;rw[show (0:Int)=((0:Nat):Int)from rfl,Dg s hs s 0 _ rfl (by simp)];simp
theorem st4_len: ∀(r:qa)(i:Nat),(X4 r i).length=Xx r:=by
 intro r;induction r with
 |nil=>intro i;rfl
 |cons b r ih=>
  intro i;simp only[X4,Xx,List.countP_cons];split
  ·simp only[List.length_cons,ih];rfl
  simp only[ih];rfl
theorem Ps: ∀(r:qa)(i:Nat),∀ x∈X4 r i,(i:Int)<x/\x<=i+r.length:=by
 intro r;induction r with
 |nil=>intro i x h;simp[X4]at h
 |cons b r ih=>
  intro i x h;simp only[X4]at h;simp only[List.length_cons];split at h
  ·rcases List.mem_cons.1 h with rfl|h
   ·omega
   have:=ih (i+1) x h;omega
  have:=ih (i+1) x h;omega
theorem OR: ∀(r:qa)(i:Nat),(X4 r i).Pairwise (· < ·):=by
 intro r;induction r with
 |nil=>intro i;simp[X4]
 |cons b r ih=>
  intro i;simp only[X4];split
  ·refine List.pairwise_cons.2 ⟨fun x hx=>?_,ih (i+1)⟩;have:=Ps r (i+1) x hx;omega
  exact ih (i+1)
theorem st4_at: ∀(r:qa)(i n k:Nat)(x:Int),k<Xx (r.take n)->(X4 r i)[k]? =some x->x<=i+n:=by
 intro r;induction r with
 |nil=>intro i n k x h;simp[Xx]at h
 |cons b r ih=>
  intro i n k x h hx;cases n with
  |zero=>simp[Xx]at h
  |succ n=>
   simp only[X4]at hx;simp only[List.take_succ_cons,Xx,List.countP_cons]at h;split at hx
   ·rename_i c;rw[if_pos c]at h;cases k with
    |zero=>
     simp only[List.getElem?_cons_zero,kX]at hx;omega
    |succ k=>
     have:=ih (i+1) n k x (by unfold Xx;omega) (by simpa using hx);omega
   rename_i c;rw[if_neg c]at h;have:=ih (i+1) n k x (by unfold Xx;omega) hx;omega
theorem Mh(s:qa):(0::X4 s 0).Pairwise (fun a b:Int=>a<b):=List.pairwise_cons.2 ⟨fun x hx=>by have:=Ps s 0 x hx;omega,OR s 0⟩
theorem Gn(s:qa): ∀x∈(0::X4 s 0:List Int),0<=x/\x<=s.length:=by
 intro x hx;rcases List.mem_cons.1 hx with rfl|hx
 ·omega
 have:=Ps s 0 x hx;omega
theorem oe(s:qa)(hs:s.length<=2^28)(line:Int): ∃a b c:Int,yQ s line=some (a,c)/\tg s line=some (b,c)/\0<=a/\a<=b/\b<=s.length/\
  (0<=line->line<=Xx s->c=0)/\(∀ n:Nat,line=Xx (s.take n)->a<=n):=by
 have hbl:=Nt s;have hL:((0::X4 s 0:List Int).length:Int)=Xx s+1:=by simp[st4_len]
 unfold yQ tg;rw[VP s hs];simp only[xe,z7];by_cases c:0<=line/\line<Xx s+1
 ·obtain⟨k,rfl⟩: ∃k:Nat,line=k:=⟨line.toNat,by omega⟩;obtain⟨x,hx⟩:=gl (l:=(0::X4 s 0:List Int)) (k:=k) (by omega);have hxi:=Gn s x (qX hx);have AR: ∀n:Nat,(k:Int)=Xx (s.take n)->x<=n:=by
   intro n hn;cases k with
   |zero=>
    simp only[List.getElem?_cons_zero,kX]at hx;omega
   |succ k=>
    have:=st4_at s 0 n k x (by omega) (by simpa using hx);omega
  have e1:(decide ((k:Int)<0) || decide ((k:Int)>=((0::X4 s 0:List Int).length:Int)))=false:=by
   simp only[Bool.or_eq_false_iff,decide_eq_false_iff_not];omega
  rw[e1];simp only[w9,if_false];rw[gi hx,ws (by omega)];simp only[z7];by_cases c2:k+1<(0::X4 s 0:List Int).length
  ·obtain⟨y,hy⟩:=gl (l:=(0::X4 s 0:List Int)) (k:=k+1) c2;have hyi:=Gn s y (qX hy);have xB:x<y:=by
    obtain⟨h1,h1'⟩:=qF hx;obtain⟨h2,h2'⟩:=qF hy;have:=List.pairwise_iff_getElem.1 (Mh s) k (k+1) h1 h2 (by omega);rw[h1',h2']at this;exact this
   rw[if_pos (by simp only[decide_eq_true_eq];omega),gi hy];simp only[z7];rw[wi (n:=y-1)];exact⟨x,y-1,0,rfl,rfl,hxi.1,by omega,by omega,fun _ _=>rfl,AR⟩
  rw[if_neg (by simp only[decide_eq_true_eq];omega)];exact⟨x,s.length,0,rfl,rfl,hxi.1,by omega,by omega,fun _ _=>rfl,AR⟩
 have e1:(decide (line<0) || decide (line>=((0::X4 s 0:List Int).length:Int)))=true:=by
  simp only[Bool.or_eq_true,decide_eq_true_eq];omega
 rw[e1];simp only[if_true];exact⟨0,0,3,rfl,rfl,by omega,by omega,by omega,fun h1 h2=>by omega,fun n hn=>by omega⟩
theorem Ky(s:qa)(n:Nat):Xx (s.take n)<=Xx s:=List.Sublist.countP_le (List.take_sublist n s)
theorem Co(s:qa)(hs:s.length<=2^28)(off:Int)(h0:0<=off)(h1:off<=s.length):qG (dm s off 1) (fun v=>v.1=Xx (s.take off.toNat)/\0<=v.2.1):=by
 unfold dm;refine .go (a:=true) (by unfold cm;simp) ?_;rw[if_neg (by simp)];refine .bind (Nq s (by omega) off) fun v hv=>?_;rcases hv with ⟨e,_,_,hv⟩|⟨_,_,hv⟩;rotate_left
 ·exact absurd ⟨h0,h1⟩ hv
 rw[if_neg (by simp[e])];have hb:=Ky s off.toNat;obtain⟨a,b,c,g1,_,g3,_,_,g4,g5⟩:=oe s hs v.1;refine .go g1 ?_;have:=g5 off.toNat hv;refine .bind (qG.kb (by omega) (by simp only;omega) (by omega)) fun r hr=>?_;have Tl:=hr.2;refine .bind (Zk r (by simp only at Tl;omega)) fun w hw=>?_;refine .bind (Al w _ hw.2) fun u hu=>?_;exact .ret ⟨hv,hu.1⟩
theorem Lb(s:qa)(hs:s.length<=2^28)(n:Int)(hn:0<=n):qG (aG s 1 n) (fun v=>0<=v/\v<=s.length):=by
 have loop: ∀(d k:Nat)(many:Int),k+d=s.length->0<=many->many<=k->qG (gX (s,1,n,many,(k:Int))) (fun v=>match v with| .inl y=>0<=y/\y<=s.length| .inr _=>True):=by
  intro d;induction d with
  |zero=>intro k many h _ _;rw[gX.eq_1,if_neg (by simp;omega)];exact .ret trivial
  |succ d ih=>
   intro k many h m0 m1;rw[gX.eq_1,if_pos (by simp;omega),ws (by omega)];refine .bind .kb fun r hr=>?_;have Tl:=hr.2;refine .bind (Zk r (by omega)) fun w hw=>?_;refine .bind (Al w _ hw.2) fun u hu=>?_;rw[wi (n:=many+u)];refine .ite (fun _=> .ret ⟨by omega,by omega⟩) fun _=>ih (k+1) _ (by omega) (by omega) (by omega)
 unfold aG;rw[if_neg (by simp;omega)];refine .bind (loop s.length 0 0 (by omega) (by omega) (by omega)) fun v hv=>?_;rcases v with v|v
 ·exact .ret hv
 exact .ret ⟨by omega,by omega⟩
theorem K3(s:qa)(hs:s.length<=2^28)(line col:Int)(hc:0<=col):qG (py s line col 1) (fun v=>0<=v.1/\v.1<=s.length):=by
 unfold py;refine .go (a:=true) (by unfold cm;simp) ?_;rw[if_neg (by simp)];obtain⟨a,b,c,g1,g2,g3,g4,g5,_⟩:=oe s hs line;refine .go g1 ?_;refine .ite (fun _=> .ret ⟨by simp only;omega,by simp only;omega⟩) fun _=>?_;refine .go g2 ?_;refine .bind (qG.kb (by simp only;omega) (by simp only;omega) (by simp only;omega)) fun r hr=>?_;have Tl:=hr.2;simp only at Tl |-;refine .bind (Lb r (by omega) col hc) fun u hu=>?_;rw[wi (n:=a+u)];exact .ret ⟨by simp only;omega,by simp only;omega⟩
end Xr
end Go.Proofs.YtmllebdamdnhoaaGreat
