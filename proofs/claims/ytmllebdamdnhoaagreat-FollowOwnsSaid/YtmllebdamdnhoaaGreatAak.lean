/-
  Where a snippet's stops lie.
-/
import Derived.Test.YtmllebdamdnhoaaGreatAaj
set_option linter.unusedSimpArgs false
set_option linter.unusedVariables false
set_option maxHeartbeats 1000000
namespace Go.Proofs.YtmllebdamdnhoaaGreat
open Go Go.Gm
theorem SL: ∀(m:Nat)(i:Int)(b:List UInt8),m=(b.length-i).toNat->0<=i->b.length<=1099511627776->qB (kz (i,b)) (fun r=>r.length=b.length):=by
 intro m;induction m using Nat.strongRecOn with
 |_ m ih=>
 intro i b hm h0 hB;rw[kz.eq_1];exact tW
theorem lz(s:qa)(hs:s.length<=1099511627776):qB (uC s) (fun r=>r.length=s.length):=by
 unfold uC;have:= @SL;exact tW
theorem PL: ∀(m:Nat)(i:Int)(b:List UInt8),m=(b.length-i).toNat->0<=i->b.length<=1099511627776->qB (wI (i,b)) (fun r=>r.length=b.length):=by
 intro m;induction m using Nat.strongRecOn with
 |_ m ih=>
 intro i b hm h0 hB;rw[wI.eq_1];exact tW
theorem BD(s:qa)(hs:s.length<=1099511627776):qB (s9 s) (fun r=>r.length=s.length):=by
 unfold s9;have:= @PL;exact tW
theorem lQ(c:qa):qB (mP c) (fun _=>True):=by
 unfold mP;refine .tI ?_ ?_<;>intro hT
 ·refine .bind .get fun b hb=>?_;refine .bind (mO b) fun v _=>?_;refine .tI ?_ ?_<;>intro hT
  ·exact .ret trivial
  refine .bind (bL b) fun v _=>?_;refine .tI ?_ ?_<;>intro hT
  ·exact .ret trivial
  exact .ret trivial
 exact .ret trivial
theorem JP(rows:Sl qT)(hl:rows.l.length<=1099511627776)(c:qa):qB (cR rows c) (fun _=>True):=by
 have key: ∀(r:List qT)(k:Nat),rows.l.drop k=r->qB (gn (rows,c,(k:Int))) (fun _=>True):=by
  intro r;induction r with
  |nil=>
   intro k hk;rw[gn.eq_1,if_neg (by simpa using vH hk)];exact .ret trivial
  |cons x r ih=>
   intro k hk;obtain⟨a1,a2,a3,a4⟩:=wv hk;have ih:=ih (k+1) a3;rw[gn.eq_1,if_pos (by simpa using a1),ia (by omega) a1];exact tW
 unfold cR;refine .bind (key rows.l 0 rfl) fun v _=>?_;rcases v with v|v<;>exact .ret trivial
theorem SP(rows:Sl qT)(hl:rows.l.length<=1099511627776)(n f:Bool)(c:qa)(hc:c.length<=1099511627776):qB (ah rows n f c) (fun _=>True):=by
 unfold ah;refine .bind (JP rows hl c) fun v _=>?_;refine .tI ?_ ?_<;>intro hT
 ·refine .bind (lz c hc) fun d _=>?_;refine .bind (JP rows hl d) fun w _=>?_;refine .tI ?_ ?_<;>intro hT
  ·exact .ret trivial
  refine .bind (BD c hc) fun d _=>?_;refine .bind (JP rows hl d) fun w _=>?_;refine .tI ?_ ?_<;>intro hT
  ·exact .ret trivial
  exact .ret trivial
 exact .ret trivial
structure nj (s:qa) (n:Nat) (b:qf):Prop where
 hs:s.length<=1048576
 cs:b.cs.l.length=n
 clen: ∀c∈b.cs.l,c.length<=s.length
 kZ:b.kZ.l.length=n+1
 mono:b.kZ.l.Pairwise (· < ·)
 QP: ∀x∈b.kZ.l,0<=x/\x<=s.length
 fuel:0<=b.fuel/\b.fuel<=20000
 hn:n<=1048576
structure rK (b c:qf):Prop where
 cs:c.cs=b.cs
 kZ:c.kZ=b.kZ
 fold:c.fold=b.fold
 fuel:c.fuel<=b.fuel
theorem rK.refl(b:qf):rK b b:=⟨rfl,rfl,rfl,Int.le_refl _⟩
theorem rK.trans{a b c:qf}(h1:rK a b)(h2:rK b c):rK a c:=⟨h2.cs.trans h1.cs,h2.kZ.trans h1.kZ,h2.fold.trans h1.fold,Int.le_trans h2.fuel h1.fuel⟩
def Y0(s:qa)(x:ql):Prop:=x.qO= -1\/(0<=x.qO/\x.qO<=x.to/\x.to<=s.length)
structure nH (s:qa) (g:Nat) (p:Sl ql):Prop where
 len:p.l.length=g
 ok: ∀x∈p.l,Y0 s x
inductive H7 (g:Nat) (j:Int):Option qe->Prop
 |none:H7 g j none
 |ZB (k:qe) (hk:k.kind=1) (g0:0<=k.g) (g1:k.g<g) (f0:0<=k.qO) (f1:k.qO<=j) (h:H7 g j k.rest):H7 g j (some k)
 |again (k:qe) (hk:k.kind=2) (hx:WF k.x) (hl:ku k.x) (h7:k.x.kind=7) (g0:0<=k.g) (g1:k.g+sy k.x<=g) (h:H7 g j k.rest):H7 g j (some k)
 |hold (k:qe) (hk:k.kind=0) (hx:WF k.x) (hl:ku k.x) (g0:0<=k.g) (g1:k.g+sy k.x<=g) (h:H7 g j k.rest):H7 g j (some k)
theorem H7.eP{g:Nat}{i j:Int}(DN:i<=j){k:Option qe}(h:H7 g i k):H7 g j k:=by
 induction h with
 |none=>exact .none
 |ZB k hk g0 g1 f0 f1 _ ih=>exact .ZB k hk g0 g1 f0 (by omega) ih
 |again k hk hx hl h7 g0 g1 _ ih=>exact .again k hk hx hl h7 g0 g1 ih
 |hold k hk hx hl g0 g1 _ ih=>exact .hold k hk hx hl g0 g1 ih
mutual
def kW:qe->Nat
 |⟨kd,x,_,_,_,r⟩=>(if kd=0 then tq x else 1)+kWO r
def kWO:Option qe->Nat
 |none=>0
 |some k=>kW k
end
theorem EI(k:qe):kWO (some k)=(if k.kind=0 then tq k.x else 1)+kWO k.rest:=by
 cases k;simp[kW,kWO]
section
variable {s:qa} {n:Nat}
theorem XP{b:qf}(hb:nj s n b){i:Int}(h0:0<=i)(h1:i<=n):qB (qi b.kZ.l i) (fun x=>b.kZ.l[i.toNat]? =some x/\0<=x/\x<=s.length):=
 (qB.get h0 (by have:=hb.kZ;omega)).mono fun x hx=>⟨hx.1,hb.QP x hx.2⟩
theorem MC{l:List Int}(hm:l.Pairwise (· < ·)){i j:Nat}{a c:Int}(hi:l[i]? =some a)(hj:l[j]? =some c)(h:i<j):a<c:=by
 obtain⟨i1,rfl⟩:=qG hi;obtain⟨j1,rfl⟩:=qG hj;exact List.pairwise_iff_getElem.1 hm i j i1 j1 h
theorem Zn{l:List Int}(hm:l.Pairwise (· < ·)){i j:Nat}{a c:Int}(hi:l[i]? =some a)(hj:l[j]? =some c)(h:i<=j):a<=c:=by
 have:= @MC;exact tW
theorem Ds(x:qF)(hx:ku x)(i:Int)(h0:0<=i)(h1:i<=n)(b:qf)(hb:nj s n b):qB (bF x i b) (fun r=>0<=r.1/\(r.2=true->i+r.1<=n)):=by
 have hc:=hb.cs;have hn:=hb.hn;have hs:=hb.hs;have hxw:=vS x;have hrows:=xg sx x.rows.l;unfold ku at hx;unfold bF;refine .tI ?_ ?_<;>intro hT
 ·exact .ret ⟨by simp,fun _=>by simp only;omega⟩
 refine .tI ?_ ?_<;>intro hT
 ·exact .ret ⟨by simp,fun _=>by simp only;omega⟩
 refine .tI ?_ ?_<;>intro hT
 ·refine .tI ?_ ?_<;>intro hT
  ·(repeat (first|(rw [qI];rotate_left;omega;omega)|(rw [xp];rotate_left;omega;omega)))
   refine .bind .get fun c _=>?_;refine .bind (lQ c) fun v _=>?_;refine .tI ?_ ?_<;>intro hT
   ·refine .bind .get fun c _=>?_;refine .bind (lQ c) fun v _=>?_;exact .ret ⟨by simp,fun _=>by simp only;omega⟩
   exact .ret ⟨by simp,fun _=>by simp only;omega⟩
  refine .tI ?_ ?_<;>intro hT
  ·refine .bind .get fun c _=>?_;refine .bind (lQ c) fun v _=>?_;exact .ret ⟨by simp,fun _=>by simp only;omega⟩
  exact .ret ⟨by simp,fun _=>by simp only;omega⟩
 refine .tI ?_ ?_<;>intro hT
 ·exact .ret ⟨by simp,by simp⟩
 refine .bind .get fun c hcc=>?_;have lY:=hb.clen c hcc.2;refine .tI ?_ ?_<;>intro hT
 ·exact .ret ⟨by simp,fun _=>by simp only;omega⟩
 refine .tI ?_ ?_<;>intro hT
 ·refine .bind (SP x.rows (by omega) _ _ c (by omega)) fun v _=>?_;exact .ret ⟨by simp,fun _=>by simp only;omega⟩
 refine .tI ?_ ?_<;>intro hT
 ·exact .ret ⟨by simp,fun _=>by simp only;omega⟩
 refine .tI ?_ ?_<;>intro hT
 ·refine .bind (lz c (by omega)) fun v _=>?_;refine .bind (lz x.char (by omega)) fun v _=>?_;exact .ret ⟨by simp,fun _=>by simp only;omega⟩
 exact .ret ⟨by simp,by simp⟩
end
abbrev OnR:=Int×Sl ql×Bool×qf
structure Nd (s:qa) (n g:Nat) (i:Int) (b:qf) (r:OnR):Prop where
 run:nj s n r.2.2.2
 eP:rK b r.2.2.2
 ok:r.2.2.1=true->i<=r.1/\r.1<=n/\nH s g r.2.1
theorem Nd.mono{s:qa}{n g:Nat}{i j:Int}{b c:qf}{r:OnR}(h:Nd s n g j c r)(DN:i<=j)(hl:rK b c):Nd s n g i b r:=
 ⟨h.run,hl.trans h.eP,fun k=>⟨Int.le_trans DN (h.ok k).1,(h.ok k).2⟩⟩
theorem Nd.fail{s:qa}{n g:Nat}{i:Int}{b:qf}(hb:nj s n b){e:Int}{p:Sl ql}:Nd s n g i b (e,p,false,b):=⟨hb,.refl b,by simp⟩
section
variable {s:qa} {n g:Nat}
structure VX (s:qa) (n g:Nat) (k:Option qe) (i:Int) (parts:Sl ql) (b:qf):Prop where
 i0:0<=i
 i1:i<=n
 k:H7 g i k
 p:nH s g parts
 run:nj s n b
 g:g<=1000000000
def H8(s:qa)(n g:Nat)(k:Option qe)(i:Int)(parts:Sl ql)(b:qf):Prop:=qB (qV (k,i,parts,b)) (Nd s n g i b)
theorem VK{p:Sl ql}(h:p.l.length=g)(hg:g<=1000000000):qg p.l.length 16=true:=by
 simp only[qg,zB,decide_eq_true_eq];omega
theorem nH.set{p:Sl ql}(h:nH s g p)(i:Nat){x:ql}(hx:Y0 s x)(b:Bool):nH s g (⟨b,p.l.set i x⟩:Sl ql) where
 len:=by simpa using h.len
 ok:=by
  intro y hy;rcases List.mem_or_eq_of_mem_set hy with hy|rfl
  ·exact h.ok y hy
  exact hx
theorem pR{o:Option OnR}{Q:OnR->Prop}(h:qB o Q):qB (o>>=fun v=>some (v.1,v.2.1,v.2.2.1,v.2.2.2)) Q:=qB.bind h fun v hv=> .ret hv
theorem Sh(k:qe)(i:Int)(parts:Sl ql)(b:qf)(h:VX s n g (some k) i parts b)(hk:k.kind=0)(h7:k.x.kind≠7)
  (go: ∀k i parts c,VX s n g k i parts c->c.fuel.toNat<b.fuel.toNat->H8 s n g k i parts c):qB (yY (some k,i,parts,b)) (Nd s n g i b):=by
 have hf:=h.run.fuel;have hg:=h.g;have hn:=h.run.hn;obtain⟨hx,hl,g0,g1,nX⟩:WF k.x/\ku k.x/\0<=k.g/\k.g+sy k.x<=g/\H7 g i k.rest:=by
  cases h.k with
  |ZB _ h1=>omega
  |again _ h1=>omega
  |hold _ _ a b c d e=>exact⟨a,b,c,d,e⟩
 rw[yY.eq_1];refine .tI ?_ ?_<;>intro hT
 ·exact .ret ⟨⟨h.run.hs,h.run.cs,h.run.clen,h.run.kZ,h.run.mono,h.run.QP,hf,hn⟩,⟨rfl,rfl,rfl,Int.le_refl _⟩,by simp⟩
 have hf0:0<b.fuel:=by omega
 refine .go rfl ?_;have hr:nj s n (qf.mk b.cs b.kZ b.fold (IntKind.i64.wrap (b.fuel-(1:Int))) b.out):=
  ⟨h.run.hs,h.run.cs,h.run.clen,h.run.kZ,h.run.mono,h.run.QP,by simp only;rw[qI (by omega) (by omega)];omega,hn⟩
 have Wa:rK b (qf.mk b.cs b.kZ b.fold (IntKind.i64.wrap (b.fuel-(1:Int))) b.out):=⟨rfl,rfl,rfl,by simp only;rw[qI (by omega) (by omega)];omega⟩;have xB:(qf.mk b.cs b.kZ b.fold (IntKind.i64.wrap (b.fuel-(1:Int))) b.out).fuel.toNat<b.fuel.toNat:=by simp only;rw[qI (by omega) (by omega)];omega
 have UD:=Kk k.x;refine .tI ?_ ?_<;>intro hT
 ·have h5:=hT;obtain⟨y,hy⟩:=hx.one (by omega);refine .go (a:=y) (by rw[hy];rfl) ?_;have DU:y∈k.x.qy.l:=by rw[hy];simp
  rw[if_pos h5,hy]at UD;simp only[List.map_cons,List.map_nil,qK]at UD;rw[wr (n:=k.g+1) (by omega) (by omega)];refine pR ((go _ i parts _ ⟨h.i0,h.i1, ?_,h.p,hr,hg⟩ xB).mono fun r hr=>hr.mono (Int.le_refl _) Wa);refine .hold _ rfl (hx.qy y DU) (bP hl DU) (by simp only;omega) (by simp only;omega) ?_;exact .ZB _ rfl (by simp only;omega) (by simp only;omega) (by simp only;exact h.i0) (by simp only;omega) nX
 refine .tI ?_ ?_<;>intro hT
 ·have h6:=hT;obtain⟨y,hy⟩:=hx.one (by omega);refine .go (a:=y) (by rw[hy];rfl) ?_;have DU:y∈k.x.qy.l:=by rw[hy];simp
  rw[if_neg (by omega),hy]at UD;simp only[List.map_cons,List.map_nil,qK]at UD;refine pR ((go _ i parts _ ⟨h.i0,h.i1, ?_,h.p,hr,hg⟩ xB).mono fun r hr=>hr.mono (Int.le_refl _) Wa);exact .hold _ rfl (hx.qy y DU) (bP hl DU) (by simp only;omega) (by simp only;omega) nX
 refine .bind (Ds k.x hl i h.i0 h.i1 _ hr) fun v hv=>?_;refine .tI ?_ ?_<;>intro hT
 ·exact .ret ⟨hr,Wa,by simp⟩
 have DS:=hv.2 (by simpa using hT);have h0:=h.i0;rw[wr (n:=i+v.1) (by omega) (by omega)];refine pR ((go _ (i+v.1) parts _ ⟨by omega,DS,nX.eP (by omega),h.p,hr,hg⟩ xB).mono fun r hr=>hr.mono (by omega) Wa)
theorem JK(k:qe)(i:Int)(parts:Sl ql)(b:qf)(h:VX s n g (some k) i parts b)(hk:k.kind=0)(h0:k.x.kind≠0/\k.x.kind≠1/\k.x.kind≠7)
  (go: ∀k i parts c,VX s n g k i parts c->c.fuel.toNat<b.fuel.toNat->H8 s n g k i parts c):H8 s n g (some k) i parts b:=by
 unfold H8;rw[qV.eq_1];rw[if_neg (by simp)];refine .go rfl ?_;rw[if_neg (by simp[hk]),if_neg (by simp[hk]),if_neg (by simp[h0.1]),if_neg (by simp[h0.2.1]),if_neg (by simp[h0.2.2])];exact pR (Sh k i parts b h hk h0.2.2 go)
theorem Ss(k:qe)(i:Int)(b:qf)(hl:ku k.x)(g0:0<=k.g)(g1:k.g+sy k.x<=g)(hg:g<=1000000000):
  ∀(m:Nat)(j:Int)(p:List ql),m=(sy k.x-j).toNat->0<=j->nH s g ⟨false,p⟩->qB (vd (some k,i,j,b,p)) (fun r=>nH s g ⟨false,r⟩):=by
 intro m;induction m using Nat.strongRecOn with
 |_ m ih=>
 intro j p hm h0 hp;have sI:=hp.len;simp only at sI;rw[vd.eq_1];refine .go rfl ?_;refine .go (fR k.x hl) ?_;refine .tI ?_ ?_<;>intro hT
 ·rw[wr (n:=k.g+j) (by omega) (by omega),wr (n:=j+1) (by omega) (by omega)];refine .bind .get fun y _=>?_;exact ih _ (by omega) (j+1) _ rfl (by omega) (hp.set _ (.inl rfl) false)
 exact .ret hp
theorem L8(k:qe)(i:Int)(parts:Sl ql)(b:qf)(i0:0<=i)(i1:i<=n)(hx:WF k.x)(hl:ku k.x)(h7:k.x.kind=7)(g0:0<=k.g)(g1:k.g+sy k.x<=g)(nX:H7 g i k.rest)(hp:nH s g parts)(hb:nj s n b)(hg:g<=1000000000)
  (go: ∀k i parts c,VX s n g k i parts c->c.fuel.toNat<b.fuel.toNat->H8 s n g k i parts c):qB (xj (some k,i,parts,b)) (Nd s n g i b):=by
 rw[xj.eq_1];refine .zm (VK hp.len hg) ?_;refine .bind (Ss (s:=s) k i b hl g0 g1 hg _ 0 parts.l rfl (by omega) ⟨hp.len,hp.ok⟩) fun v hv=>?_;refine .go rfl ?_;obtain⟨y,hy⟩:=hx.one (by omega);refine .go (a:=y) (by rw[hy];rfl) ?_;have DU:y∈k.x.qy.l:=by rw[hy];simp
 have hyk:=hx.rep h7 y DU;have UD:=Kk k.x;rw[if_neg (by omega),hy]at UD;simp only[List.map_cons,List.map_nil,qK]at UD;refine pR (JK _ i _ b ⟨i0,i1, ?_,hv,hb,hg⟩ rfl (by simp only;omega) go);refine .hold _ rfl (hx.qy y DU) (bP hl DU) g0 (by simp only;omega) ?_;exact .again _ rfl hx hl h7 g0 g1 nX
theorem Ki(k:qe)(i:Int)(parts:Sl ql)(b:qf)(i0:0<=i)(i1:i<=n)(hx:WF k.x)(hl:ku k.x)(h7:k.x.kind=7)(g0:0<=k.g)(g1:k.g+sy k.x<=g)(nX:H7 g i k.rest)(hp:nH s g parts)(hb:nj s n b)(hg:g<=1000000000)
  (go: ∀k i parts c,VX s n g k i parts c->c.fuel.toNat<b.fuel.toNat->H8 s n g k i parts c)
  (rest: ∀c,nj s n c->c.fuel<=b.fuel->H8 s n g k.rest i parts c):qB (jF (some k,i,parts,b)) (Nd s n g i b):=by
 have tm: ∀c,nj s n c->rK b c->qB (xj (some k,i,parts,c)) (Nd s n g i c):=fun c hc hbc=>
  L8 k i parts c i0 i1 hx hl h7 g0 g1 nX hp hc hg fun k i p d h1 h2=>go k i p d h1 (by have:=hbc.fuel;have:=hc.fuel;have:=hb.fuel;omega)
 have t0:=tm b hb (.refl b);have r0:qB (qV (k.rest,i,parts,b)) (Nd s n g i b):=rest b hb (Int.le_refl _);have lazy: ∀{c:OnR->Prop}[DecidablePred c],qB (qV (k.rest,i,parts,b)>>=fun v=>if c v then some (v.1,v.2.1,v.2.2.1,v.2.2.2)else xj (some k,i,parts,v.2.2.2)>>=fun w=>some (w.1,w.2.1,w.2.2.1,w.2.2.2)) (Nd s n g i b):=by
  intro c _;refine .bind r0 fun v hv=>?_;refine .ite (fun _=> .ret hv) fun _=>?_;exact pR ((tm v.2.2.2 hv.run hv.eP).mono fun r hr=>hr.mono (Int.le_refl _) hv.eP)
 have eager: ∀{c:OnR->Prop}[DecidablePred c],qB (xj (some k,i,parts,b)>>=fun v=>if c v then some (v.1,v.2.1,v.2.2.1,v.2.2.2)else qV (k.rest,i,parts,v.2.2.2)>>=fun w=>some (w.1,w.2.1,w.2.2.1,w.2.2.2)) (Nd s n g i b):=by
  intro c _;refine .bind t0 fun v hv=>?_;refine .ite (fun _=> .ret hv) fun _=>?_;exact pR ((rest v.2.2.2 hv.run hv.eP.fuel).mono fun r hr=>hr.mono (Int.le_refl _) hv.eP)
 rw[jF.eq_1];refine .go rfl ?_
 repeat' (first|exact pR t0|exact pR r0|exact lazy|exact eager|refine .ite (fun _=>?_) (fun _=>?_))
theorem seq_L1(k:qe)(i:Int)(parts:Sl ql)(b:qf)(hx:WF k.x)(hl:ku k.x)(g0:0<=k.g)(g1:k.g+qK (k.x.qy.l.map sy)<=g)(hg:g<=1000000000):
  ∀(m:Nat)(rest:Option qe),m<=k.x.qy.l.length->H7 g i rest->
   qB (vu (some k,i,parts,rest,k.g+(qK ((k.x.qy.l.take m).map sy):Nat),(m:Int)-1,b)) (fun r=>H7 g i r/\kWO r=qK ((k.x.qy.l.take m).map tq)+kWO rest):=by
 intro m;have mF:=dC k.x;unfold ku at hl;induction m with
 |zero=>
  intro rest _ hr;rw[vu.eq_1,if_neg (by simp)];exact .ret ⟨hr,by simp[qK]⟩
 |succ m ih=>
  intro rest hm hr;rw[vu.eq_1,if_pos (by simp)];refine .go rfl ?_;have xB:m<k.x.qy.l.length:=by omega
  have hy:k.x.qy.l[m]∈k.x.qy.l:=List.getElem_mem xB;have e1:((m+1:Nat):Int)-1=(m:Int):=by omega
  rw[e1];refine .go (j8 xB) ?_;have hlk:ku k.x.qy.l[m]:=bP (by unfold ku;omega) hy;refine .go (fR _ hlk) ?_;have e2:k.x.qy.l.take (m+1)=k.x.qy.l.take m++[k.x.qy.l[m]]:=by rw[List.take_succ_eq_append_getElem xB]
  have e3:=jS sy (k.x.qy.l.take m) k.x.qy.l[m];have e4:=jS tq (k.x.qy.l.take m) k.x.qy.l[m];have e5:qK (k.x.qy.l.map sy)=qK ((k.x.qy.l.take m).map sy)+qK ((k.x.qy.l.drop m).map sy):=by
   conv=>lhs;rw[<- List.take_append_drop m k.x.qy.l,List.map_append,gu]
  have e6:sy k.x.qy.l[m]<=qK ((k.x.qy.l.drop m).map sy):=xA (by rw[List.drop_eq_getElem_cons xB];exact List.mem_cons_self);rw[e2,e3,e4];have e7:IntKind.i64.wrap (k.g+((qK ((k.x.qy.l.take m).map sy)+sy k.x.qy.l[m]:Nat):Int)-(sy k.x.qy.l[m]:Int))=k.g+(qK ((k.x.qy.l.take m).map sy):Nat):=by
   rw[wr (by omega) (by omega)];omega
  rw[e7,wr (n:=(m:Int)-1) (by omega) (by omega)];refine(ih _ (by omega) (.hold _ rfl (hx.qy _ hy) hlk (by simp only;omega) (by simp only;omega) hr)).mono fun r h=>⟨h.1, ?_⟩;rw[h.2,EI];simp only[if_true];omega
theorem alt_L3(k:qe)(i:Int)(parts:Sl ql)(b:qf)(hx:WF k.x)(hl:ku k.x)(g0:0<=k.g)(g1:k.g+qK (k.x.qy.l.map sy)<=g)(hg:g<=1000000000)(nX:H7 g i k.rest)
  (go: ∀y∈k.x.qy.l,∀(q:Int) c,0<=q->q+sy y<=g->nj s n c->c.fuel<=b.fuel->H8 s n g (some (qe.mk (0:Int) y q (0:Int) (0:Int) k.rest)) i parts c):
  ∀(r:List qF)(m:Nat)(q:Int)(c:qf),k.x.qy.l.drop m=r->k.g<=q->q+qK (r.map sy)<=g->nj s n c->rK b c->
   qB (k8 (some k,i,parts,q,(m:Int),c)) (fun r=>match r with| .inl v=>Nd s n g i b v| .inr d=>nj s n d/\rK b d):=by
 have mF:=dC k.x;unfold ku at hl;intro r;induction r with
 |nil=>
  intro m q c hm h0 h1 hc hbc;rw[k8.eq_1];have:= @vH;exact tW
 |cons y r ih=>
  intro m q c hm h0 h1 hc hbc;obtain⟨a1,a2,a3,a4⟩:=wv hm;simp only[List.map_cons,qK]at h1;rw[k8.eq_1];refine .go rfl ?_;rw[if_pos (by simpa using a1),ia (by omega) a1];refine .go a2 ?_;refine .bind (go y a4 q c (by omega) (by omega) hc hbc.fuel) fun v hv=>?_;refine .ite (fun _=> .ret (hv.mono (Int.le_refl _) hbc)) fun _=>?_;refine .go (fR y (bP (by unfold ku;omega) a4)) ?_;rw[wr (n:=q+(sy y:Int)) (by omega) (by omega)];exact ih (m+1) _ _ a3 (by omega) (by omega) hv.run (hbc.trans hv.eP)
theorem on_tot: ∀(f w:Nat)(k:Option qe)(i:Int)(parts:Sl ql)(b:qf),b.fuel.toNat=f->kWO k=w->VX s n g k i parts b->H8 s n g k i parts b:=by
 intro f;induction f using Nat.strongRecOn with
 |_ f ihf=>
 intro w;induction w using Nat.strongRecOn with
 |_ w ihw=>
 intro k i parts b hf hw h;have go: ∀k i parts c,VX s n g k i parts c->c.fuel.toNat<b.fuel.toNat->H8 s n g k i parts c:=fun k i p c h1 h2=>ihf _ (by omega) _ k i p c rfl rfl h1;have YD: ∀k i parts c,VX s n g k i parts c->c.fuel<=b.fuel->kWO k<w->H8 s n g k i parts c:=by
  intro k' i p c h1 h2 h3;have:=h1.run.fuel;by_cases h4:c.fuel.toNat=f
  ·exact ihw _ h3 k' i p c h4 rfl h1
  exact ihf _ (by omega) _ k' i p c rfl rfl h1
 have hg:=h.g;have hn:=h.run.hn;cases hk:k with
 |none=>
  unfold H8;rw[qV.eq_1,if_pos (by simp)];exact .ret ⟨h.run,.refl b,fun _=>⟨Int.le_refl _,h.i1,h.p⟩⟩
 |some k=>
  rw[hk]at h hw;rw[EI]at hw;cases h.k with
  |ZB _ h1 g0 g1 f0 f1 nX=>
   unfold H8;rw[qV.eq_1,if_neg (by simp)];refine .go rfl ?_;rw[if_pos (by simp[h1])];refine .zm (VK h.p.len hg) ?_;have i1:=h.i1;refine .bind (XP h.run f0 (by omega)) fun x hx=>?_;refine .bind (XP h.run h.i0 h.i1) fun y hy=>?_;refine .bind (qB.get g0 (by have:=h.p.len;omega)) fun z _=>?_;rw[if_neg (by omega)]at hw;refine pR (YD k.rest i _ b ⟨h.i0,h.i1,nX,h.p.set _ (.inr ⟨hx.2.1, ?_,hy.2.2⟩) false,h.run,hg⟩ (Int.le_refl _) (by omega));exact Zn h.run.mono hx.1 hy.1 (by omega)
  |again _ h1 hx hl h7 g0 g1 nX=>
   have rep:qB (jF (some k,i,parts,b)) (Nd s n g i b):=
    Ki k i parts b h.i0 h.i1 hx hl h7 g0 g1 nX h.p h.run hg go fun c hc hcf=>YD k.rest i parts c ⟨h.i0,h.i1,nX,h.p,hc,hg⟩ hcf (by rw[if_neg (by omega)]at hw;omega)
   unfold H8;rw[qV.eq_1,if_neg (by simp)];refine .go rfl ?_;rw[if_neg (by simp[h1]),if_pos (by simp[h1])];refine .ite (fun _=>qB.ite (fun _=> .ret (.fail h.run)) fun _=>pR rep) fun _=>pR rep
  |hold _ h1 hx hl g0 g1 nX=>
   rw[if_pos h1]at hw;have UD:=Kk k.x;have hwx:=vS k.x;by_cases k0:k.x.kind=0
   ·rw[if_neg (by omega)]at UD;unfold H8;rw[qV.eq_1,if_neg (by simp)];refine .go rfl ?_;rw[if_neg (by simp[h1]),if_neg (by simp[h1]),if_pos (by simp[k0])];refine .go (fR k.x hl) ?_;have mF:=dC k.x;unfold ku at hl;have h2:=seq_L1 k i parts b hx (by unfold ku;omega) g0 (by omega) hg k.x.qy.l.length k.rest (xJ _) nX;rw[List.take_length]at h2;rw[wr (n:=k.g+(sy k.x:Int)) (by omega) (by omega),wr (n:=(k.x.qy.l.length:Int)-1) (by omega) (by omega)];rw[show k.g+(sy k.x:Int)=k.g+((qK (k.x.qy.l.map sy):Nat):Int) by omega];refine .bind h2 fun v hv=>?_;exact pR (YD v i parts b ⟨h.i0,h.i1,hv.1,h.p,h.run,hg⟩ (Int.le_refl _) (by omega))
   by_cases k1:k.x.kind=1
   ·rw[if_neg (by omega)]at UD;unfold H8;rw[qV.eq_1,if_neg (by simp)];refine .go rfl ?_;rw[if_neg (by simp[h1]),if_neg (by simp[h1]),if_neg (by simp[k0]),if_pos (by simp[k1])];refine .bind (alt_L3 (s:=s) (n:=n) k i parts b hx hl g0 (by omega) hg nX ?_ k.x.qy.l 0 k.g b rfl (Int.le_refl _) (by omega) h.run (.refl b)) fun v hv=>?_
    ·intro y hy q c q0 q1 hc hcf;have:=RK hy;refine YD _ i parts c ⟨h.i0,h.i1,.hold _ rfl (hx.qy y hy) (bP hl hy) q0 q1 nX,h.p,hc,hg⟩ hcf ?_;rw[EI];simp only[if_true];omega
    rcases v with v|v
    ·exact .ret hv
    exact .ret ⟨hv.1,hv.2,by simp⟩
   by_cases k7:k.x.kind=7
   ·unfold H8;rw[qV.eq_1,if_neg (by simp)];refine .go rfl ?_;rw[if_neg (by simp[h1]),if_neg (by simp[h1]),if_neg (by simp[k0]),if_neg (by simp[k1]),if_pos (by simp[k7])];refine pR (Ki _ i parts b h.i0 h.i1 hx hl k7 g0 g1 nX h.p h.run hg go fun c hc hcf=>?_);exact YD k.rest i parts c ⟨h.i0,h.i1,nX,h.p,hc,hg⟩ hcf (by have:=eG k.x;omega)
   exact JK k i parts b h h1 ⟨k0,k1,k7⟩ go
end
theorem splitL(s:qa): ∀(r:qa)(k f:Nat)(l out:List qa),s.drop k=r->k<=s.length->s.length<=1048576->(∀ c∈l,c.length<=s.length)->zy (s,(f:Int),(k:Int),l)=some out-> ∀c∈out,c.length<=s.length:=by
 intro r;induction r with
 |nil=>
  intro k f l out hk mF hs hl h;have h1:=wU hk;obtain rfl:k=s.length:=by omega
  rw[zy.eq_1]at h;simp only[Int.le_refl,decide_true,if_true,beq_self_eq_true,xe,Option.bind_eq_some_iff]at h;obtain⟨r,hr,h⟩:=h;split at h
  ·rw[zy.eq_1,if_neg (by rw[wr (by omega) (by omega)];simp;omega)]at h;cases h;intro c hc;rcases List.mem_append.1 hc with hc|hc
   ·exact hl c hc
   simp only[List.mem_singleton]at hc;subst hc;rw[<- QL hr];simp
  cases h
 |cons b r ih=>
  intro k f l out hk mF hs hl h;obtain⟨a1,a2,a3,_⟩:=wv hk;have h1:((k:Int)<=(s.length:Int)):=by omega
  have h2:((k:Int)==(s.length:Int))=false:=by simp;omega
  rw[zy.eq_1]at h;simp only[h1,decide_true,if_true,h2,w9,if_false,a2,xe,z7,XL,ia (by omega) a1]at h;split at h
  ·rw[Option.bind_eq_some_iff]at h;obtain⟨r1,hr,h⟩:=h;split at h
   ·refine ih (k+1) k _ out a3 (by omega) hs ?_ h;intro c hc;rcases List.mem_append.1 hc with hc|hc
    ·exact hl c hc
    simp only[List.mem_singleton]at hc;subst hc;rw[<- QL hr];simp;omega
   cases h
  exact ih (k+1) f l out a3 (by omega) hs hl h
theorem Ct(s:qa)(hs:s.length<=1048576): ∀(r:qa)(k:Nat)(l:List Int),s.drop k=r->k<=s.length->l.length<=k->l.Pairwise (· < ·)->(∀ x∈l,0<=x/\x<k)->
  ∃out,xX (s,(k:Int),l)=some out/\out.length=l.length+r.countP ZR+1/\out.Pairwise (· < ·)/\ ∀x∈out,0<=x/\x<=s.length:=by
 have Kj: ∀n,n<=1099511627777->qg n 8=true:=by
  intro n hn;simp only[qg,zB,decide_eq_true_eq];omega
 have Uk: ∀(l:List Int)(k:Nat),l.Pairwise (· < ·)->(∀ x∈l,0<=x/\x<(k:Int))->(l++[(k:Int)]).Pairwise (· < ·):=by
  intro l k h1 h2;refine List.pairwise_append.2 ⟨h1,by simp,fun a ha b hb=>?_⟩;simp only[List.mem_singleton]at hb;subst hb;exact(h2 a ha).2
 intro r;induction r with
 |nil=>
  intro k l hk mF SW hp hr;have h1:=wU hk;obtain rfl:k=s.length:=by omega
  rw[xX.eq_1];simp only[Int.le_refl,decide_true,if_true,beq_self_eq_true,Kj _ (show l.length+1<=_ by omega)];rw[xX.eq_1,if_neg (by rw[wr (by omega) (by omega)];simp;omega)];refine⟨_,rfl,by simp,Uk l _ hp hr, ?_⟩;intro x hx;rcases List.mem_append.1 hx with hx|hx
  ·have:=hr x hx;omega
  simp only[List.mem_singleton]at hx;omega
 |cons b r ih=>
  intro k l hk mF SW hp hr;obtain⟨a1,a2,a3,_⟩:=wv hk;have h1:((k:Int)<=(s.length:Int)):=by omega
  have h2:((k:Int)==(s.length:Int))=false:=by simp;omega
  rw[xX.eq_1];simp only[h1,decide_true,if_true,h2,w9,if_false,a2,xe,z7,XL,ia (by omega) a1];cases hb:ZR b
  ·obtain⟨out,o1,o2,o3⟩:=ih (k+1) l a3 (by omega) (by omega) hp (fun x hx=>by have:=hr x hx;omega);exact⟨out,by simpa using o1,by rw[o2];simp[List.countP_cons,hb],o3⟩
  obtain⟨out,o1,o2,o3⟩:=ih (k+1) (l++[(k:Int)]) a3 (by omega) (by simp;omega) (Uk l k hp hr) (fun x hx=>by
   rcases List.mem_append.1 hx with hx|hx
   ·have:=hr x hx;omega
   simp only[List.mem_singleton]at hx;omega)
  refine⟨out, ?_,by rw[o2];simp[List.countP_cons,hb];omega,o3⟩;simp only[if_true,Kj _ (show l.length+1<=_ by omega),o1]
theorem VQ(fold:Bool)(s:qa)(hs:s.length<=1048576)(fuel:Int):qB (pj fold s fuel) (fun b=> ∃n,nj s n b):=by
 have hfu:0<=(if (20000:Int)<(if (0:Int)>fuel then(0:Int)else fuel)then(20000:Int)else(if (0:Int)>fuel then(0:Int)else fuel))/\(if (20000:Int)<(if (0:Int)>fuel then(0:Int)else fuel)then(20000:Int)else(if (0:Int)>fuel then(0:Int)else fuel))<=20000:=by
  constructor<;>(repeat' split)<;>omega
 unfold pj;by_cases h0:s.length=0
 ·have:s=[]:=by simpa using h0
  subst this;refine .go (a:=(⟨true,[]⟩:Sl qa)) (by unfold vX;rw[zy.eq_1];simp) ?_;refine .go (a:=(⟨false,[0]⟩:Sl Int)) (by unfold pT;rw[xX.eq_1];simp) ?_;exact .ret ⟨0,⟨by simp,rfl,by simp,rfl,by simp,by simp,hfu,by omega⟩⟩
 obtain⟨o1,p1,p2⟩:=Bs s (by omega) (s.drop 1) 1 0 [] rfl (by omega) (by omega) (by simp);have p3:=splitL s (s.drop 1) 1 0 [] o1 rfl (by omega) hs (by simp) p1;obtain⟨o2,q1,q2,q3,q4⟩:=Ct s hs (s.drop 1) 1 [0] rfl (by omega) (by simp) (by simp) (by simp);have hc:(s.drop 1).countP ZR<=s.length-1:=by have:=List.countP_le_length (p:=ZR) (l:=s.drop 1);simp only[List.length_drop]at this;exact this
 refine .go (a:=(⟨o1.isEmpty,o1⟩:Sl qa)) (by unfold vX;exact Option.bind_eq_some_iff.2 ⟨o1,p1,rfl⟩) ?_;refine .go (a:=(⟨false,o2⟩:Sl Int)) (by unfold pT;exact Option.bind_eq_some_iff.2 ⟨o2,q1,rfl⟩) ?_;refine .ret ⟨o1.length,⟨hs,rfl,p3, ?_,q3,q4,hfu, ?_⟩⟩
 ·exact tW
 simp only[List.length_nil]at p2;omega
structure o8 (s:qa) (n g:Nat) (b:qf) (i:Int) (m:qh):Prop where
 ex: ∃j e:Nat,i<=j/\j<=e/\e<=n/\b.kZ.l[j]? =some m.span.qO/\b.kZ.l[e]? =some m.span.to
 parts:nH s g m.parts
section
variable {s:qa} {n:Nat}
theorem Ik(i:Int)(b:qf)(x:qF)(t:qh)(hl:ku x)(hg:sy x<=1000000000): ∀(m:Nat)(j:Int)(l:List ql),m=(sy x-j).toNat->0<=j->j<=sy x->(l.length:Int)=j->(∀ y∈l,Y0 s y)->
  qB (yX (i,j,b,x,t,l)) (fun r=>r.length=sy x/\ ∀y∈r,Y0 s y):=by
 intro m;induction m using Nat.strongRecOn with
 |_ m ih=>
 intro j l hm h0 h1 hlen M4;rw[yX.eq_1];refine .go (fR x hl) ?_;refine .tI ?_ ?_<;>intro hT
 ·refine .zm (by simp only[qg,zB,decide_eq_true_eq];omega) ?_;rw[wr (n:=j+1) (by omega) (by omega)];refine ih _ (by omega) (j+1) _ rfl (by omega) (by omega) (by simp;omega) ?_;intro y hy;rcases List.mem_append.1 hy with hy|hy
  ·exact M4 y hy
  simp only[List.mem_singleton]at hy;subst hy;exact .inl rfl
 exact .ret ⟨by omega,M4⟩
theorem Ak(x:qF)(hx:WF x)(hl:tq x<=1000000000)(i:Int)(h0:0<=i)(h1:i<=n)(b:qf)(hb:nj s n b):
  qB (pW x i b) (fun r=>nj s n r.2.2/\rK b r.2.2/\(r.2.1=true->o8 s n (sy x) b i r.1)):=by
 have hgl:=Pp x;have hli:ku x:=by unfold ku;omega
 unfold pW;refine .bind (Ik (s:=s) i b x _ hli (by omega) _ 0 [] rfl (by omega) (by omega) rfl (by simp)) fun v hv=>?_;refine .bind (on_tot (s:=s) (n:=n) (g:=sy x) _ _ _ i _ b rfl rfl ⟨h0,h1,.hold _ rfl hx hli (by simp only;omega) (by simp only;omega) .none,⟨hv.1,hv.2⟩,hb,by omega⟩) fun w hw=>?_;refine .ite (fun _=> .ret ⟨hw.run,hw.eP,by simp⟩) fun hc=>?_;have JO:=hw.ok (by simpa using hc);refine .bind (XP hw.run h0 h1) fun y hy=>?_;refine .bind (XP hw.run (by omega) JO.2.1) fun z hz=>?_;refine .ret ⟨hw.run,hw.eP,fun _=>⟨⟨i.toNat,w.1.toNat,by omega,by omega,by omega, ?_, ?_⟩,JO.2.2⟩⟩
 ·rw[<- hw.eP.kZ];exact hy.1
 rw[<- hw.eP.kZ];exact hz.1
theorem o8.mono{g:Nat}{b c:qf}{i j:Int}{m:qh}(h:o8 s n g c j m)(DN:i<=j)(hl:rK b c):o8 s n g b i m:=by
 obtain⟨⟨p,e,h1,h2,h3,h4,h5⟩,h6⟩:=h;exact⟨⟨p,e,by omega,h2,h3,by rw[<- hl.kZ];exact h4,by rw[<- hl.kZ];exact h5⟩,h6⟩
theorem SH(x:qF)(hx:WF x)(hl:tq x<=1000000000)(t:qh): ∀(m:Nat)(i:Int)(b:qf),m=(n+1-i).toNat->0<=i->nj s n b->
  qB (wZ (i,b,x,t)) (fun r=>match r with| .inl v=>nj s n v.2.1/\rK b v.2.1/\(v.1=true->o8 s n (sy x) b i v.2.2)| .inr c=>nj s n c/\rK b c):=by
 intro m;induction m using Nat.strongRecOn with
 |_ m ih=>
 intro i b hm h0 hb;have ho:=hb.kZ;have hn:=hb.hn;rw[wZ.eq_1];refine .tI ?_ ?_<;>intro hT
 ·refine .bind (Ak x hx hl i h0 (by omega) b hb) fun v hv=>?_;refine .ite (fun _=> .ret hv) fun _=>?_;rw[wr (n:=i+1) (by omega) (by omega)];refine(ih _ (by omega) (i+1) v.2.2 rfl (by omega) hv.1).mono fun r hr=>?_;rcases r with r|r
  ·exact⟨hr.1,hv.2.1.trans hr.2.1,fun h=>(hr.2.2 h).mono (by omega) hv.2.1⟩
  exact⟨hr.1,hv.2.1.trans hr.2⟩
 exact .ret ⟨hb,.refl b⟩
theorem Jx(x:qF)(hx:WF x)(hl:tq x<=1000000000)(i:Int)(h0:0<=i)(b:qf)(hb:nj s n b):
  qB (uV x i b) (fun r=>nj s n r.2.2/\rK b r.2.2/\(r.2.1=true->o8 s n (sy x) b i r.1)):=by
 unfold uV;have:= @SH;exact tW
theorem ZW(a:Int)(b:qf)(hb:nj s n b):qB (yZ a b) (fun r=> -1<=r/\ ∀e:Nat,b.kZ.l[e]? =some a->r=e):=by
 have ho:=hb.kZ;have hn:=hb.hn;have key: ∀(r:List Int)(k:Nat),b.kZ.l.drop k=r->qB (ke (a,(k:Int),b)) (fun v=>match v with| .inl i=> ∃j:Nat,i=j/\b.kZ.l[j]? =some a| .inr _=> ∀e:Nat,k<=e->b.kZ.l[e]? ≠some a):=by
  intro r;induction r with
  |nil=>
   intro k hk;rw[ke.eq_1,if_neg (by simpa using vH hk)];refine .ret fun e he=>?_;rw[List.getElem?_eq_none (by have:=wU hk;omega)];simp
  |cons y r ih=>
   intro k hk;obtain⟨a1,a2,a3,a4⟩:=wv hk;obtain⟨b1,b2,b3⟩:=drop_cons hk;rw[ke.eq_1,if_pos (by simpa using a1),ia (by omega) a1];exact tW
 unfold yZ;refine .bind (key b.kZ.l 0 rfl) fun v hv=>?_;rcases v with v|v
 ·obtain⟨j,rfl,hj⟩:=hv;refine .ret ⟨by omega,fun e he=>?_⟩;have h1: ¬j<e:=fun h=>by have:=MC hb.mono hj he h;omega
  have h2: ¬e<j:=fun h=>by have:=MC hb.mono he hj h;omega
  omega
 exact .ret ⟨by omega,fun e he=>absurd he (hv e (Nat.zero_le e))⟩
def Ms(s:qa)(g:Nat):Int->List qh->Prop
 |lo,[]=>0<=lo/\lo<=s.length
 |lo,m::r=>0<=lo/\lo<=m.span.qO/\m.span.qO<=m.span.to/\nH s g m.parts/\Ms s g m.span.to r
def SU:Int->List qh->Int
 |lo,[]=>lo
 |_,m::r=>SU m.span.to r
theorem Ms.lo{g:Nat}: ∀{l:List qh}{lo:Int},Ms s g lo l->0<=lo/\lo<=s.length
 |[],lo,h=>h
 |m::r,lo,h=>by
  have:=Ms.lo h.2.2.2.2;have h1:=h.1;have h2:=h.2.1;have h3:=h.2.2.1;omega
theorem Z8: ∀(l:List qh)(lo:Int)(m:qh),SU lo (l++[m])=m.span.to
 |[],_,_=>rfl
 |_::r,_,m=>Z8 r _ m
theorem Ms.Uk{g:Nat}: ∀{l:List qh}{lo:Int}{m:qh},Ms s g lo l->SU lo l<=m.span.qO->m.span.qO<=m.span.to->m.span.to<=s.length->nH s g m.parts->Ms s g lo (l++[m])
 |[],lo,m,h,h1,h2,h3,h4=>by
  have:=h.1;exact⟨h.1,h1,h2,h4,by simp only[SU]at h1;omega,h3⟩
 |x::r,lo,m,h,h1,h2,h3,h4=>⟨h.1,h.2.1,h.2.2.1,h.2.2.2.1,Ms.Uk h.2.2.2.2 h1 h2 h3 h4⟩
theorem Ae(x:qF)(hx:WF x)(hl:tq x<=1000000000): ∀(m:Nat)(i:Int)(b:qf)(out:List qh),m=(n+1-i).toNat->0<=i->i<=n+1->(out.length:Int)<=i->nj s n b->Ms s (sy x) 0 out->(∀ a,b.kZ.l[i.toNat]? =some a->SU 0 out<=a)->
  qB (gM (i,x,b,out)) (fun r=>match r with| .inl v=>v.2.2.1≠0/\v.1.l=[]| .inr v=>Ms s (sy x) 0 v.2/\v.2.length<=n+1):=by
 intro m;induction m using Nat.strongRecOn with
 |_ m ih=>
 intro i b out hm h0 hi1 hlen hb hM hhi;have ho:=hb.kZ;have hn:=hb.hn;rw[gM.eq_1];refine .tI ?_ ?_<;>intro hT
 ·have hi:=hT;refine .bind (Jx x hx hl i h0 b hb) fun v hv=>?_;refine .tI ?_ ?_<;>intro hT
  ·exact .ret ⟨by simp,rfl⟩
  refine .tI ?_ ?_<;>intro hT
  ·exact .ret ⟨hM,by simp only;omega⟩
  obtain⟨⟨j,e,g1,g2,g3,g4,g5⟩,g6⟩:=hv.2.2 hT;refine .zm (by simp only[qg,zB,decide_eq_true_eq];omega) ?_;refine .bind (ZW v.1.span.to v.2.2 hv.1) fun w hw=>?_;have hwe:w=e:=hw.2 e (by rw[hv.2.1.kZ];exact g5);have hlow:SU 0 out<=v.1.span.qO:=by
   obtain⟨a,ha⟩: ∃a,b.kZ.l[i.toNat]? =some a:=⟨_,kU (by omega)⟩;have h1:=hhi a ha;have h2:=Zn hb.mono ha g4 (by omega);omega
  have hft:=Zn hb.mono g4 g5 g2;have hto:=(hb.QP _ (qX g5)).2;have hM2:=hM.Uk hlow hft hto g6;have cD:=hv.2.1.kZ;refine .tI ?_ ?_<;>intro hT
  ·rw[wr (n:=w+1) (by omega) (by omega)];refine ih _ (by omega) (w+1) v.2.2 _ rfl (by omega) (by omega) (by simp;omega) hv.1 hM2 ?_;intro a ha;rw[Z8];rw[cD]at ha;exact Zn hb.mono g5 ha (by omega)
  have jv:=hT;have hje:j<e:=by
   rcases Nat.eq_or_lt_of_le g2 with rfl|h
   ·exact absurd (Option.some.inj (g4.symm.trans g5)) jv
   exact h
  refine ih _ (by omega) w v.2.2 _ rfl (by omega) (by omega) (by simp;omega) hv.1 hM2 ?_;intro a ha;rw[Z8];rw[cD]at ha;exact Zn hb.mono g5 ha (by omega)
 exact .ret ⟨hM,by simp only;omega⟩
end
theorem RZ(x:qF)(hl:tq x<=1000000000)(fold:Bool)(s:qa)(hs:s.length<=1048576)(fuel:Int):qB (av x fold s fuel) (fun r=>r.2.2=0->Ms s (sy x) 0 r.1.l/\r.1.l.length<=1048577):=by
 unfold av;refine .bind (QR x (by unfold ku;omega)) fun v hv=>?_;refine .tI ?_ ?_<;>intro hT
 ·exact .ret (by simp)
 have hx:=hv hT;refine .bind (VQ fold s hs fuel) fun b hb=>?_;obtain⟨n,hb⟩:=hb;refine .bind (Ae (s:=s) (n:=n) x hx hl _ 0 b [] rfl (by omega) (by omega) (by simp) hb ⟨by omega,by omega⟩ (fun a ha=>(hb.QP a (qX ha)).1)) fun w hw=>?_;rcases w with w|w
 ·exact .ret fun h=>absurd h hw.1
 exact .ret fun _=>⟨hw.1,by have:=hb.hn;have:=hw.2;simp only;omega⟩
theorem N7(x:qF)(hl:tq x<=1000000000)(fold:Bool)(s:qa)(hs:s.length<=1048576)(a fuel:Int):qB (cU x fold s a fuel) (fun r=>r.2.2.1=true->Ms s (sy x) 0 [r.1]):=by
 unfold cU;refine .bind (QR x (by unfold ku;omega)) fun v hv=>?_;refine .tI ?_ ?_<;>intro hT
 ·exact .ret (by simp)
 have hx:=hv hT;refine .bind (VQ fold s hs fuel) fun b hb=>?_;obtain⟨n,hb⟩:=hb;refine .bind (ZW a b hb) fun w hw=>?_;refine .tI ?_ ?_<;>intro hT
 ·exact .ret (by simp)
 refine .bind (Jx x hx hl w (by omega) b hb) fun y hy=>?_;refine .bind (P:=fun r=>r.2.2.1=true->y.2.1=true/\r.1=y.1) ?_ fun z hz=>?_
 ·exact tW
 refine .ret fun h=>?_;obtain⟨z1,z2⟩:=hz h;obtain⟨⟨j,e,g1,g2,g3,g4,g5⟩,g6⟩:=hy.2.2 z1;simp only[z2];have h1:=hb.QP _ (qX g4);have h2:=hb.QP _ (qX g5);exact⟨by omega,h1.1,Zn hb.mono g4 g5 g2,g6,h2⟩
theorem KG(c:UInt8):qB (cX c) (fun _=>True):=by
 unfold cX;refine .tI ?_ ?_<;>intro hT
 ·exact .ret trivial
 exact .ret trivial
theorem Jq(c:UInt8):qB (rj c) (fun _=>True):=by
 unfold rj;refine .tI ?_ ?_<;>intro hT
 ·exact .ret trivial
 exact .ret trivial
theorem Tv(c:UInt8): ∃v,cW c=some v:=by
 unfold cW sT
 repeat' split
 all_goals first|exact⟨_,rfl⟩|(simp only[xe,z7];split<;>exact⟨_,rfl⟩)
theorem Dx: ∀(m:Nat)(i:Int)(b:List UInt8),m=(b.length-i).toNat->0<=i->b.length<=1099511627776->qB (bR (i,b)) (fun r=>r.length=b.length):=by
 intro m;induction m using Nat.strongRecOn with
 |_ m ih=>
 intro i b hm h0 hB;rw[bR.eq_1];refine .tI ?_ ?_<;>intro hT
 ·refine .bind .get fun c hc=>?_;refine .bind (KG c) fun v _=>?_
  (repeat (first|(rw [qI];rotate_left;omega;omega)|(rw [xp];rotate_left;omega;omega)))
  exact(ih _ (by simp;omega) (i+1) _ rfl (by omega) (by simpa using hB)).mono fun r hr=>by simpa using hr
 exact .ret rfl
theorem Dy: ∀(m:Nat)(i:Int)(b:List UInt8),m=(b.length-i).toNat->0<=i->b.length<=1099511627776->qB (bS (i,b)) (fun r=>r.length=b.length):=by
 intro m;induction m using Nat.strongRecOn with
 |_ m ih=>
 intro i b hm h0 hB;rw[bS.eq_1];refine .tI ?_ ?_<;>intro hT
 ·refine .bind .get fun c hc=>?_;refine .bind (Jq c) fun v _=>?_
  (repeat (first|(rw [qI];rotate_left;omega;omega)|(rw [xp];rotate_left;omega;omega)))
  exact(ih _ (by simp;omega) (i+1) _ rfl (by omega) (by simpa using hB)).mono fun r hr=>by simpa using hr
 exact .ret rfl
def dK(s:qa):Nat:=s.length
theorem YC: ∀(l:List qa),(∀ w∈l,1<=w.length)->l.length<=qK (l.map dK)
 |[],_=>by simp
 |a::l,h=>by
  have h1:=h a (by simp);have h2:=YC l fun w hw=>h w (by simp[hw]);simp only[List.map_cons,qK,List.length_cons,dK]at*
  omega
theorem Ln(s:qa)(hs:s.length<=1048576): ∀(r:qa)(k:Nat)(l:List qa),s.drop k=r->k<=s.length->(∀ w∈l,1<=w.length)->qK (l.map dK)<=k->(0<k-> ∀b,s[k-1]? =some b->cW b=some true->0<l.length)->
  qB (jl (s,(k:Int),l)) (fun r=>(∀ w∈r,1<=w.length)/\qK (r.map dK)<=s.length):=by
 intro r;induction r with
 |nil=>
  intro k l hk G5 h1 h2 h3;rw[jl.eq_1,if_neg (by simpa using vH hk)];exact .ret ⟨h1,by omega⟩
 |cons b r ih=>
  intro k l hk G5 h1 h2 h3;obtain⟨a1,a2,a3,a4⟩:=wv hk;obtain⟨b1,b2,b3⟩:=drop_cons hk;have hl:=YC l h1;have e1:IntKind.i64.wrap ((k:Int)+1)=((k+1:Nat):Int):=ia (by omega) a1;have put: ∀(l:List qa),0<l.length->l.length<=k+1->(∀ i w,l[i]? =some w->i+1<l.length->1<=w.length)->qK (l.map dK)<=k-> ∀{f:qa->qa->Option (List qa)},(∀ x y,f x y=if x.length+y.length<=2^62 then jl (s,IntKind.i64.wrap ((k:Int)+1),l.set ((IntKind.i64.wrap ((l.length:Int)-1)).toNat) (x++y))else none)->
    qB (qi l (IntKind.i64.wrap ((l.length:Int)-1))>>=fun x=>kb s (k:Int) (IntKind.i64.wrap ((k:Int)+1))>>=fun y=>f x y) (fun r=>(∀ w∈r,1<=w.length)/\qK (r.map dK)<=s.length):=by
   intro l hl0 hlk h4 h5 f hf;have e2:IntKind.i64.wrap ((l.length:Int)-1)=((l.length-1:Nat):Int):=by rw[wr (by omega) (by omega)];omega
   rw[e2,e1];refine .bind .get fun x hx=>?_;have hxl:x.length<=qK (l.map dK):=xA (f:=dK) hx.2;refine .bind .kb fun y hy=>?_;rw[hf];refine .zm (by omega) ?_;have Ew:y.length=1:=by omega
   have C6:l[l.length-1]? =some x:=by simpa using hx.1
   have hsum:=o0 dK l (l.length-1) (x++y) x C6;rw[e2,Int.toNat_natCast,e1];have hlen:dK (x++y)=dK x+1:=by simp[dK,Ew]
   refine ih (k+1) _ a3 (by omega) ?_ (by omega) (fun _ _ _ _=>by simpa using hl0);intro w hw;obtain⟨i,hi⟩:=jz hw;rw[List.getElem?_set]at hi;split at hi
   ·split at hi
    ·cases hi;simp[Ew]
    cases hi
   rename_i jv;have:=(qG hi).1;exact h4 i w hi (by omega)
  obtain⟨v,hv⟩:=Tv b;rw[jl.eq_1,if_pos (by simpa using a1)];refine .go a2 ?_;refine .go hv ?_;have hnew: ∀i w,(l++[([]:qa)])[i]? =some w->i+1<(l++[([]:qa)]).length->1<=w.length:=by
   intro i w hi xB;simp only[List.length_append,List.length_cons,List.length_nil]at xB;rw[List.getElem?_append_left (by omega)]at hi;exact h1 w (qX hi)
  have SY:qK ((l++[([]:qa)]).map dK)<=k:=by rw[jS];simp only[dK,List.length_nil];omega
  have wV:qg (l.length+1) 16=true:=by simp only[qg,zB,decide_eq_true_eq];omega
  refine .tI ?_ ?_<;>intro hT
  ·rw[e1];refine ih (k+1) l a3 (by omega) h1 (by omega) (fun _ c hc Yr=>?_);simp only[Nat.add_sub_cancel]at hc;rw[b1]at hc;cases hc;rw[hv]at Yr;cases Yr;exact absurd hT (by simp)
  refine .tI ?_ ?_<;>intro hT
  ·exact .zm wV (put _ (by simp) (by simp;omega) hnew SY fun _ _=>rfl)
  have hk0:0<k:=by omega
  have e3:IntKind.i64.wrap ((k:Int)-1)=((k-1:Nat):Int):=by rw[wr (by omega) (by omega)];omega
  rw[e3];refine .bind .get fun c hc=>?_;obtain⟨w,hw⟩:=Tv c;refine .go hw ?_;refine .tI ?_ ?_<;>intro hT
  ·exact .zm wV (put _ (by simp) (by simp;omega) hnew SY fun _ _=>rfl)
  refine put l (h3 hk0 c (by simpa using hc.1) ?_) (by omega) (fun i w hi _=>h1 w (qX hi)) h2 fun _ _=>rfl;rw[hw,hT]
theorem DB(s:qa)(hs:s.length<=1048576):qB (sb s) (fun r=>(∀ w∈r.l,1<=w.length)/\qK (r.l.map dK)<=s.length):=by
 unfold sb;exact .bind (Ln s hs s 0 [] rfl (by omega) (by simp) (by simp[qK]) (fun h=>by omega)) fun v hv=> .ret hv
theorem Dz(w7:Int)(ws:Sl qa)(r0:List UInt8)(hw: ∀w∈ws.l,1<=w.length)(hs:qK (ws.l.map dK)<=1048576): ∀(r:List qa)(k:Nat)(out:qa),ws.l.drop k=r->out.length+qK (r.map dK)<=qK (ws.l.map dK)->
  qB (vY (w7,ws,out,(k:Int),r0)) (fun t=>t.length<=qK (ws.l.map dK)):=by
 have hl:=YC ws.l hw;intro r;induction r with
 |nil=>
  intro k out hk ho;rw[vY.eq_1,if_neg (by simpa using vH hk)];simp only[List.map_nil,qK]at ho;exact .ret (by omega)
 |cons x r ih=>
  intro k out hk ho;obtain⟨a1,a2,a3,a4⟩:=wv hk;simp only[List.map_cons,qK,dK]at ho;have hx:=hw x a4;rw[vY.eq_1,if_pos (by simpa using a1),ia (by omega) a1];refine .go a2 ?_;refine .tI ?_ ?_<;>intro hT
  ·refine .bind .get fun c _=>?_;refine .bind (Jq c) fun v _=>?_;refine .zm (by simp;omega) ?_;exact ih (k+1) _ a3 (by simp[dK];omega)
  refine .bind .get fun c _=>?_;refine .bind (KG c) fun v _=>?_;refine .zm (by simp;omega) ?_;exact ih (k+1) _ a3 (by simp[dK];omega)
theorem KF(s:qa)(hs:s.length<=1048576)(w7:Int):qB (ri s w7) (fun r=>r.1.length<=s.length):=by
 unfold ri;refine .tI ?_ ?_<;>intro hT
 ·exact .bind (Dx _ 0 s rfl (by omega) (by omega)) fun v hv=> .ret (by simp only;omega)
 refine .tI ?_ ?_<;>intro hT
 ·exact .bind (Dy _ 0 s rfl (by omega) (by omega)) fun v hv=> .ret (by simp only;omega)
 refine .tI ?_ ?_<;>intro hT
 ·refine .tI ?_ ?_<;>intro hT
  ·refine .bind .get fun c _=>?_;refine .bind (KG c) fun v _=>?_;exact .ret (by simp)
  exact .ret (by simp)
 refine .tI ?_ ?_<;>intro hT
 ·refine .bind (DB s hs) fun w hw=>?_;refine .bind (Dz w7 w s hw.1 (by omega) w.l 0 [] rfl (by simp)) fun v hv=>?_;exact .ret (by simp only;omega)
 exact .ret (by simp)
theorem Hw(fs:Sl zl)(hf:qK (fs.l.map ej)<=1000000000)(parts:Sl qa)(hp: ∀p∈parts.l,p.length<=1048576):qB (sc fs parts) (fun r=>r.length<=1048576*qK (fs.l.map ej)):=by
 have hl:=xg XD fs.l;unfold sc;refine .bind (Vb fs (by omega)) fun v hv=>?_;refine .tI ?_ ?_<;>intro hT
 ·exact .ret (by simp)
 have hn:=hv hT;have key: ∀(r:List zl)(k:Nat)(s:qa),fs.l.drop k=r->s.length+1048576*qK (r.map ej)<=1048576*qK (fs.l.map ej)->qB (zh (fs,parts,s,(k:Int))) (fun r=>r.length<=1048576*qK (fs.l.map ej)):=by
  intro r;induction r with
  |nil=>
   intro k s hk hs;rw[zh.eq_1,if_neg (by simpa using vH hk)];exact .ret (by omega)
  |cons f r ih=>
   intro k s hk hs;obtain⟨a1,a2,a3,a4⟩:=wv hk;simp only[List.map_cons,qK]at hs;have hfw:ej f=1+f.i9.length+f.oI.length:=rfl;have hfn:=hn f a4;have next: ∀t:qa,t.length<=1048576*ej f->qB (if s.length+t.length<=2^62 then zh (fs,parts,(s++t),((k+1:Nat):Int))else none) (fun r=>r.length<=1048576*qK (fs.l.map ej)):=by
    intro t ht;refine .zm (by omega) (ih (k+1) _ a3 ?_);simp only[List.length_append];omega
   have h1:=next f.i9 (by omega)
   have h2:=next f.oI (by omega)
   have h3:=next [] (by simp)
   rw[zh.eq_1,if_pos (by simpa using a1),ia (by omega) a1];refine .go a2 ?_;refine .ite (fun hc=>?_) fun hc=>?_
   ·simp only[decide_eq_true_eq]at hc;refine .bind (qB.get hfn hc) fun p hpp=>?_;have sI:=hp p hpp.2;have h4:=next p (by omega)
    repeat' (first|exact h1|exact h2|exact h4|(refine .bind (KF p sI _) fun v hv=>?_;exact next v.1 (by omega))|refine .ite (fun _=>?_) (fun _=>?_))
   repeat' (first|exact h1|exact h2|exact h3|(refine .bind (KF [] (by simp) _) fun v hv=>?_;exact next v.1 (by simp only[List.length_nil]at hv;omega))|refine .ite (fun _=>?_) (fun _=>?_))
 exact .bind (key fs.l 0 [] rfl (by simp)) fun v hv=> .ret hv
theorem Vs(f:zf)(hf:vW f<=1000000000)(s:qa)(hs:s.length<=1048576)(g:Nat)(hg:g<=1000000000)(m:qh)(h0:0<=m.span.qO)(h1:m.span.qO<=m.span.to)(h2:m.span.to<=s.length)(hp:nH s g m.parts):
  qB (cj f s m) (fun r=>r.length<=1048576*1000000000):=by
 have sI:=hp.len;have hfw:vW f=tq f.rx+qK (f.uz.l.map ej):=rfl;have key: ∀(r:List ql)(k:Nat)(ps:List qa),m.parts.l.drop k=r->ps.length=k+1->(∀ p∈ps,p.length<=1048576)->qB (uj (s,(k:Int),f,m,ps)) (fun r=> ∀p∈r,p.length<=1048576):=by
  intro r;induction r with
  |nil=>
   intro k ps hk hl C3;rw[uj.eq_1,if_neg (by simpa using vH hk)];exact .ret C3
  |cons x r ih=>
   intro k ps hk hl C3;obtain⟨a1,a2,a3,a4⟩:=wv hk;have hx:=hp.ok x a4;have more: ∀p:qa,p.length<=1048576-> ∀q∈ps++[p],q.length<=1048576:=by
    intro p hp q hq;rcases List.mem_append.1 hq with hq|hq
    ·exact C3 q hq
    simp only[List.mem_singleton]at hq;subst hq;exact hp
   have wV:qg (ps.length+1) 16=true:=by simp only[qg,zB,decide_eq_true_eq];omega
   rw[uj.eq_1,if_pos (by simpa using a1),ia (by omega) a1];refine .go a2 ?_;refine .tI ?_ ?_<;>intro hT
   ·rcases hx with hx|hx
    ·omega
    refine .bind (qB.kb hx.1 hx.2.1 hx.2.2) fun y hy=>?_;exact .zm wV (ih (k+1) _ a3 (by simp;omega) (more y (by omega)))
   exact .zm wV (ih (k+1) _ a3 (by simp;omega) (more [] (by simp)))
 unfold cj;refine .bind (qB.kb h0 h1 h2) fun y hy=>?_;refine .bind (key m.parts.l 0 [y] rfl rfl (by simp;omega)) fun v hv=>?_;refine .bind (Hw f.uz (by omega) ⟨false,v⟩ hv) fun w hw=>?_;refine .ret ?_;have:qK (f.uz.l.map ej)<=1000000000:=by omega
 have:=Nat.mul_le_mul_left 1048576 this;omega
theorem Nt(f:zf)(hf:vW f<=1000000000)(s:qa)(hs:s.length<=1048576)(g:Nat)(hg:g<=1000000000)(ms:Sl qh)(JJ:ms.l.length<=1099511627776)(left:Int): ∀(r:List qh)(k:Nat)(a:Int)(out:qa),ms.l.drop k=r->Ms s g a r->out.length<=65536->
  qB (yB (s,ms,left,out,a,(k:Int),f)) (fun v=>match v with| .inl y=>y.2.2.1≠0/\y.1=[]| .inr y=>y.1.length<=65536/\0<=y.2/\y.2<=s.length):=by
 intro r;induction r with
 |nil=>
  intro k a out hk hm ho;rw[yB.eq_1,if_neg (by simpa using vH hk)];exact .ret ⟨ho,hm⟩
 |cons x r ih=>
  intro k a out hk hm ho;obtain⟨a1,a2,a3,a4⟩:=wv hk;obtain⟨m1,m2,m3,m4,m5⟩:=hm;have m6:=m5.lo;rw[yB.eq_1,if_pos (by simpa using a1),ia (by omega) a1];refine .go a2 ?_;have:= @Vs;exact tW
theorem Hx(f:zf)(hf:vW f<=1000000000)(s:qa)(hs:s.length<=1048576)(g:Nat)(hg:g<=1000000000)(ms:List qh)(JJ:ms.length<=1099511627776)(left:Int)(b1:qh)(r2:List qh): ∀(r:List qh)(k:Nat)(a:Int)(out:qa),ms.drop k=r->Ms s g a r->out.length<=65536->
  qB (wc (s,left,out,a,(k:Int),f,b1,r2,ms)) (fun v=>match v with| .inl y=>y.2.2.1≠0/\y.1=[]| .inr y=>y.1.length<=65536/\0<=y.2/\y.2<=s.length):=by
 intro r;induction r with
 |nil=>
  intro k a out hk hm ho;rw[wc.eq_1,if_neg (by simpa using vH hk)];exact .ret ⟨ho,hm⟩
 |cons x r ih=>
  intro k a out hk hm ho;obtain⟨a1,a2,a3,a4⟩:=wv hk;obtain⟨m1,m2,m3,m4,m5⟩:=hm;have m6:=m5.lo;rw[wc.eq_1,if_pos (by simpa using a1),ia (by omega) a1];refine .go a2 ?_;have:= @Vs;exact tW
theorem dO(f:zf)(hf:vW f<=1000000000)(s:qa)(hs:s.length<=1048576)(fuel:Int):qB (ui f s fuel) (fun r=>r.1.length<=65536\/r.1=s):=by
 have hfw:vW f=tq f.rx+qK (f.uz.l.map ej):=rfl;have hgl:=Pp f.rx;unfold ui;refine .bind (Vc f (by omega)) fun v hv=>?_;refine .tI ?_ ?_<;>intro hT
 ·exact .ret (.inl (by simp))
 refine .tI ?_ ?_<;>intro hT
 ·refine .bind (RZ f.rx (by omega) f.fold s hs fuel) fun w hw=>?_;refine .tI ?_ ?_<;>intro hT
  ·exact .ret (.inl (by simp))
  have hM:=hw hT;refine .tI ?_ ?_<;>intro hT
  ·exact .ret (.inr rfl)
  refine .bind (Nt f hf s hs (sy f.rx) (by omega) w.1 (by have:=hM.2;omega) w.2.1 w.1.l 0 0 [] rfl hM.1 (by simp)) fun y hy=>?_;rcases y with y|y
  ·exact .ret (.inl (by simp only[hy.2,List.length_nil];omega))
  simp only
  (try simp(oX:=omega) only[qI,xp])
  refine .tI ?_ ?_<;>intro hT
  ·exact .ret (.inl (by simp))
  refine .bind (qB.bX hy.2.1 hy.2.2) fun z hz=>?_;refine .zm (by omega) ?_;exact .ret (.inl (by simp only[List.length_append];omega))
 refine .bind (N7 f.rx (by omega) f.fold s hs 0 fuel) fun w hw=>?_;refine .tI ?_ ?_<;>intro hT
 ·have hM:=hw hT;refine .zm (by simp[qg]) ?_;refine .tI ?_ ?_<;>intro hT
  ·exact .ret (.inl (by simp))
  first|refine .ite (fun h=>absurd h (by simp)) fun _=>?_|skip
  refine .bind (Hx f hf s hs (sy f.rx) (by omega) [w.1] (by simp) w.2.1 w.1 [w.1] [w.1] 0 0 [] rfl hM (by simp)) fun y hy=>?_;rcases y with y|y
  ·exact .ret (.inl (by simp only[hy.2,List.length_nil];omega))
  simp only
  (try simp(oX:=omega) only[qI,xp])
  refine .tI ?_ ?_<;>intro hT
  ·exact .ret (.inl (by simp))
  refine .bind (qB.bX hy.2.1 hy.2.2) fun z hz=>?_;refine .zm (by omega) ?_;exact .ret (.inl (by simp only[List.length_append];omega))
 refine .tI ?_ ?_<;>intro hT
 ·exact .ret (.inl (by simp))
 first|exact .ite (fun _=> .ret (.inr rfl)) fun h=>absurd (by decide) h|exact .ret (.inr rfl)
namespace Xr
def mf(x:qu):Prop:=vW x.qP<=1000000000/\ ∀o∈x.opts.l,o.length<=17592186044416
theorem iZ:Cored mf:=by
 intro x y h hy;simp only[core,Prod.mk.injEq]at h;unfold mf at*
 rw[h.2.2.2.1,h.2.2.2.2];exact hy
abbrev World:=qa×Sl qx×List qc×Sl (Sl (Sl Int))
structure WK (w:World):Prop where
 ok:T3 mf w.1 w.2.1 w.2.2.1 w.2.2.2
 text:w.1.length<=65536
structure QT (i:Nat) (w v:World):Prop where
 len:v.2.2.1.length=w.2.2.1.length
 cur: ∀(j:Nat) s,w.2.2.1[j]? =some s-> ∃s',v.2.2.1[j]? =some s' /\s'.cur=s.cur
 insts: ∀s,w.2.2.1[i]? =some s-> ∃s',v.2.2.1[i]? =some s' /\s'.insts.l.length=s.insts.l.length
theorem QT.refl(i:Nat)(w:World):QT i w w:=⟨rfl,fun j s h=>⟨s,h,rfl⟩,fun s h=>⟨s,h,rfl⟩⟩
theorem QT.trans{i:Nat}{w v u:World}(h1:QT i w v)(h2:QT i v u):QT i w u:=by
 refine⟨h2.len.trans h1.len,fun j s h=>?_,fun s h=>?_⟩
 ·obtain⟨s',a,b⟩:=h1.cur j s h;obtain⟨Oz,c,d⟩:=h2.cur j s' a;exact⟨Oz,c,d.trans b⟩
 obtain⟨s',a,b⟩:=h1.insts s h;obtain⟨Oz,c,d⟩:=h2.insts s' a;exact⟨Oz,c,d.trans b⟩
theorem Qc{w:World}(h:T3 mf w.1 w.2.1 w.2.2.1 w.2.2.2){i a k:Nat}{s:qc}{x:qw}(hs:w.2.2.1[i]? =some s)(hx:s.insts.l[a]? =some x)(hk:k<x.stops.l.length):
  w.2.2.2.nil=false/\ ∃f,w.2.2.2.l[i]? =some f/\f.nil=false/\ ∃g,f.l[a]? =some g/\g.nil=false/\g.l.length=x.stops.l.length/\ ∃v,g.l[k]? =some v/\0<=v/\v<=3:=by
 have hi:=(qG hs).1;have ha:=(qG hx).1;refine⟨h.fnn fun c=>?_, ?_⟩
 ·rw[c]at hi;simp at hi
 obtain⟨f,hf⟩:=gl (l:=w.2.2.2.l) (k:=i) (by rw[h.Jz];exact hi);have hF:=h.each i s f hs hf;obtain⟨g,hg⟩:=gl (l:=f.l) (k:=a) (by rw[hF.len];exact ha);obtain⟨q1,q2,q3⟩:=hF.each a x g hx hg;obtain⟨v,hv⟩:=gl (l:=g.l) (k:=k) (by omega);refine⟨f,hf,hF.nn fun c=>?_,g,hg,q2 fun c=>?_,q1,v,hv,q3 v (qX hv)⟩
 ·rw[c]at ha;simp at ha
 rw[c]at hk;simp at hk
theorem WQ{w:World}(h:T3 mf w.1 w.2.1 w.2.2.1 w.2.2.2){i a k:Nat}{f:Sl (Sl Int)}{g:Sl Int}(hf:w.2.2.2.l[i]? =some f)(hg:f.l[a]? =some g)(v:Int)(hv:0<=v/\v<=3):
  T3 mf w.1 w.2.1 w.2.2.1 ⟨false,w.2.2.2.l.set i ⟨false,f.l.set a ⟨false,g.l.set k v⟩⟩⟩:=by
 have fD:=(qG hf).1;have WX:=(qG hg).1;refine⟨h.blen,h.ne,h.Wi,h.T8,h.XK,h.sB,h.small,h.may,by simp[h.Jz],fun _=>rfl, ?_,h.stop⟩;intro j s f' hs Yu;simp only[xP]at Yu;by_cases c:i=j
 ·subst c;rw[if_pos ⟨rfl,fD⟩]at Yu;cases Yu;have hF:=h.each i s f hs hf;refine⟨by simp[hF.len],fun _=>rfl, ?_⟩;intro b x g' hx hg';simp only[xP]at hg';by_cases d:a=b
  ·subst d;rw[if_pos ⟨rfl,WX⟩]at hg';cases hg';obtain⟨q1,q2,q3⟩:=hF.each a x g hx hg;refine⟨by simp[q1],fun _=>rfl,fun u hu=>?_⟩;rcases List.mem_or_eq_of_mem_set hu with hu|rfl
   ·exact q3 u hu
   exact hv
  rw[if_neg (by omega)]at hg';exact hF.each b x g' hx hg'
 rw[if_neg (by omega)]at Yu;exact h.each j s f' hs Yu
theorem nilF{α:Type}{s:Sl α}(h:s.nil=false):(⟨false,s.l⟩:Sl α)=s:=by rw[<- h]
theorem num_L0(i a:Nat)(n:Int)(w:World)(h:T3 mf w.1 w.2.1 w.2.2.1 w.2.2.2)(s:qc)(x:qw)(hs:w.2.2.1[i]? =some s)(hx:s.insts.l[a]? =some x)(hL:x.stops.l.length<=2^12):
  ∀(d k:Nat)(held:List Bool),k+d=x.stops.l.length->held.length=x.stops.l.length-> ∃held',jd ((i:Int),(a:Int),n,(k:Int),w.1,w.2.1,w.2.2.1,w.2.2.2,x,held)=some (w.2.2.2,held')/\held'.length=x.stops.l.length:=by
 intro d;induction d with
 |zero=>
  intro k held hk hh;rw[jd.eq_1,if_neg (by simp;omega)];exact⟨held,rfl,hh⟩
 |succ d ih=>
  intro k held hk hh;obtain⟨z,f,hf,fz,g,hg,gz,gl',v,hv,_⟩:=Qc h hs hx (show k<x.stops.l.length by omega);obtain⟨hb,hhb⟩:=gl (l:=held) (k:=k) (by omega);rw[jd.eq_1,if_pos (by simp;omega),z,if_neg (by simp),gi hf,ws (by omega)];simp only[xe,z7];rw[fz,if_neg (by simp),gi hg];simp only[z7];rw[gz,if_neg (by simp),gi hv];simp only[z7];rw[gi hhb];simp only[z7,Int.toNat_natCast];rw[nilF z];exact ih (k+1) _ (by omega) (by simp[hh])
theorem tm2(v:Int)(h:0<=v/\v<=3):0<=v.tmod 2/\v.tmod 2<=1:=by
 rcases(show v=0\/v=1\/v=2\/v=3 by omega)with rfl|rfl|rfl|rfl<;>decide
theorem num_L2(i a:Nat)(n src:Int)(w:World)(s:qc)(x:qw)(hs:w.2.2.1[i]? =some s)(hx:s.insts.l[a]? =some x)(hL:x.stops.l.length<=2^12):
  ∀(d k:Nat)(fl:Sl (Sl (Sl Int))),k+d=x.stops.l.length->T3 mf w.1 w.2.1 w.2.2.1 fl->(∀ f g,fl.l[i]? =some f->f.l[a]? =some g-> ∀j,j<k-> ∀v,g.l[j]? =some v->v<=1)->
  ∃Yh,je ((i:Int),(a:Int),n,src,(k:Int),w.1,w.2.1,w.2.2.1,fl,x)=some Yh/\T3 mf w.1 w.2.1 w.2.2.1 Yh/\(∀ f g,Yh.l[i]? =some f->f.l[a]? =some g-> ∀j,j<x.stops.l.length-> ∀v,g.l[j]? =some v->v<=1):=by
 intro d;induction d with
 |zero=>
  intro k fl hk h H;rw[je.eq_1,if_neg (by simp;omega)];exact⟨fl,rfl,h,fun f g hf hg j hj v hv=>H f g hf hg j (by omega) v hv⟩
 |succ d ih=>
  intro k fl hk h H;obtain⟨z,f,hf,fz,g,hg,gz,gl',v,hv,hv3⟩:=Qc (w:=(w.1,w.2.1,w.2.2.1,fl)) h hs hx (show k<x.stops.l.length by omega);simp only at z hf;rw[je.eq_1,if_pos (by simp;omega),z,if_neg (by simp),gi hf,ws (by omega)];simp only[xe,z7];rw[fz,if_neg (by simp),gi hg];simp only[z7];rw[gz,if_neg (by simp),gi hv];simp only[z7,Int.toNat_natCast];have h2:=tm2 v hv3;have nO:=WQ (w:=(w.1,w.2.1,w.2.2.1,fl)) (k:=k) h hf hg (v.tmod 2) (by omega);refine ih (k+1) _ (by omega) nO fun f' g' Yu hg' j hj u hu=>?_;have fD:=(qG hf).1;have WX:=(qG hg).1;rw[xP,if_pos ⟨rfl,fD⟩]at Yu;cases Yu;simp only at hg';rw[xP,if_pos ⟨rfl,WX⟩]at hg';cases hg';simp only at hu;rw[xP]at hu;by_cases c:k=j
  ·subst c;have mF:=(qG hv).1;rw[if_pos ⟨rfl,mF⟩]at hu;cases hu;exact h2.2
  rw[if_neg (by omega)]at hu;exact H f g hf hg j (by omega) u hu
def Xa(i:Nat)(w:World)(v:(Int×World)⊕World):Prop:=match v with
 | .inl u=>u.1≠0
 | .inr u=>WK u/\QT i w u
theorem Ce{i a j:Nat}{w:World}(hw:WK w){s:qc}{y:qw}{x:qu}(hs:w.2.2.1[i]? =some s)(hy:s.insts.l[a]? =some y)(hx:y.stops.l[j]? =some x)(t:qa)(ht:t.length<=65536):
  ∃v:World,jy (i:Int) (a:Int) (j:Int) (qo.mk x.span t) false w.1 w.2.1 w.2.2.1 w.2.2.2=some v/\T3 mf v.1 v.2.1 v.2.2.1 v.2.2.2/\QT i w v:=by
 have hm:=hw.ok.may s (qX hs);have h1:=(hm.may a y hy).inside j x hx;have h2:=(hm.may a y hy).le j x hx;have h3:=(hm.may a y hy).QP;have Qm:=hw.text;have he:gx (qo.mk x.span t) w.1.length:=⟨by simp only;omega,by simp only;omega,by simp only;omega,by simp only;omega,by omega⟩;obtain⟨v,g1,g2⟩:=Mg iZ hw.ok he (by simp only;omega) (i:Int) (a:Int) (j:Int) false (.inr ⟨i,s,rfl,hs,by omega,.inr ⟨a,j,y,x,rfl,rfl,hy,hx,X8 _⟩⟩);exact⟨v,g1,g2.ok,⟨g2.len,g2.cur,fun s' eO=>g2.top i s' rfl (by omega) eO⟩⟩
theorem Vm(i a j:Nat)(n:Int)(t:qa)(ht:t.length<=65536)(b3:qw)(w:World)(hw:WK w)(hi:i<w.2.2.1.length)
  (next: ∀w' :World,WK w' ->QT i w w' ->j<2^12->qB (zd ((i:Int),(a:Int),n,t,((j+1:Nat):Int),w'.1,w'.2.1,w'.2.2.1,w'.2.2.2,b3)) (Xa i w)):
  qB (zd ((i:Int),(a:Int),n,t,(j:Int),w.1,w.2.1,w.2.2.1,w.2.2.2,b3)) (Xa i w):=by
 obtain⟨s,hs⟩:=gl hi;have Qk:=hw.ok.small s (qX hs);rw[zd.eq_1];refine .go (gi hs) ?_;by_cases ha:a<s.insts.l.length
 ·obtain⟨y,hy⟩:=gl ha;have Ew:=Qk.2 y (qX hy);rw[if_pos (by simpa using ha)];refine .go (gi hy) ?_;by_cases hj:j<y.stops.l.length
  ·obtain⟨x,hx⟩:=gl hj;obtain⟨z,f,hf,fz,g,hg,gz,gl',v,hv,hv3⟩:=Qc hw.ok hs hy hj;rw[if_pos (by simpa using hj)];refine .go (gi hx) ?_;rw[z,if_neg (by simp)];refine .go (gi hf) ?_;rw[fz,if_neg (by simp)];refine .go (gi hg) ?_;rw[gz,if_neg (by simp),nilF z,ws (k:=j) (by omega)];have ka:=next w hw (.refl i w) (by omega)
   have hm:=hw.ok.may s (qX hs);have h1:=(hm.may a y hy).inside j x hx;have h2:=(hm.may a y hy).le j x hx;have h3:=(hm.may a y hy).QP;have XH:=hw.ok.stop s (qX hs) y (qX hy) x (qX hx);have hcut:qB (kb w.1 x.span.qO x.span.to) (fun _=>True):=qB.kb.mono fun _ _=>trivial;have BM: ∀(u:qa),u.length<=65536->qB (jy (i:Int) (a:Int) (j:Int) (qo.mk x.span u) false w.1 w.2.1 w.2.2.1 w.2.2.2>>=fun v=>
     if(decide ((v.1.length:Int)>(65536:Int)))=true then some (.inl ((4:Int),v.1,v.2.1,v.2.2.1,v.2.2.2))
     else zd ((i:Int),(a:Int),n,t,((j+1:Nat):Int),v.1,v.2.1,v.2.2.1,v.2.2.2,b3)) (Xa i w):=by
    intro u hu;obtain⟨v,k1,k2,k3⟩:=Ce hw hs hy hx u hu;refine .go k1 ?_;by_cases c:(v.1.length:Int)>65536
    ·rw[if_pos (by simpa using c)];exact .ret (show (4:Int)≠0 by decide)
    rw[if_neg (by simpa using c)];exact next v ⟨k2,by omega⟩ k3 (by omega)
   refine .ite (fun _=>ka) fun _=>?_;refine .go (gi hv) ?_;refine .ite (fun _=>ka) fun _=>?_;refine .ite (fun _=>?_) fun _=>?_
   ·refine .bind (dO x.qP XH.1 t (by omega) 20000) fun r hr=>?_;refine .ite (fun c=>?_) fun _=>?_
    ·exact .ret (show r.2.2≠0 by simpa using c)
    refine .bind hcut fun q _=>?_;refine .ite (fun _=>ka) fun _=>?_;refine BM r.1 ?_;rcases hr with hr|hr
    ·exact hr
    rw[hr];exact ht
   refine .bind hcut fun q _=>?_;exact .ite (fun _=>ka) fun _=>BM t ht
  rw[if_neg (by simpa using hj)];exact .ret ⟨hw,.refl i w⟩
 rw[if_neg (by simpa using ha)];exact .ret ⟨hw,.refl i w⟩
theorem Xa.trans{i:Nat}{w w' :World}(h:QT i w w')(v:(Int×World)⊕World)(hv:Xa i w' v):Xa i w v:=by
 rcases v with v|v
 ·exact hv
 exact⟨hv.1,h.trans hv.2⟩
theorem num_L4(i a:Nat)(n:Int)(t:qa)(ht:t.length<=65536)(b3:qw): ∀(m j:Nat)(w:World),j+m=2^12->WK w->i<w.2.2.1.length->
  qB (zd ((i:Int),(a:Int),n,t,(j:Int),w.1,w.2.1,w.2.2.1,w.2.2.2,b3)) (Xa i w):=by
 intro m;induction m with
 |zero=>intro j w hj hw hi;exact Vm i a j n t ht b3 w hw hi fun w' _ _ h=>by omega
 |succ m ih=>
  intro j w hj hw hi;refine Vm i a j n t ht b3 w hw hi fun w' hw' hs _=>?_;exact(ih (j+1) w' (by omega) hw' (by rw[hs.len];exact hi)).mono fun v hv=>Xa.trans hs v hv
def NumR(i:Nat)(w:World)(v:Int×World):Prop:=v.1≠0\/v.1=0/\WK v.2/\QT i w v.2
theorem cL(i a:Nat)(n:Int)(w:World)(hw:WK w)(s:qc)(hs:w.2.2.1[i]? =some s)(ha:a<s.insts.l.length):
  qB (yM (i:Int) (a:Int) n w.1 w.2.1 w.2.2.1 w.2.2.2) (NumR i w):=by
 obtain⟨y,hy⟩:=gl ha;have Qk:=hw.ok.small s (qX hs);have Ew:=Qk.2 y (qX hy);have hi:=(qG hs).1;have Qm:=hw.text;unfold yM;refine .go (gi hs) ?_;refine .go (gi hy) ?_;refine .zm (by omega) ?_;refine .zm (qC (by simp;omega) (by omega)) ?_;obtain⟨held,g1,g2⟩:=num_L0 i a n w hw.ok s y hs hy Ew y.stops.l.length 0 (List.replicate y.stops.l.length false) (by omega) (by simp);rw[Int.toNat_natCast];refine .go g1 ?_;refine .bind (Pv y n ⟨false,held⟩ (by omega)) fun src nP=>?_;rcases nP with nP|⟨k,x,rfl,hx⟩
 ·rw[if_pos (by simpa using nP)];exact .ret (.inr ⟨rfl,hw,.refl i w⟩)
 rw[if_neg (by simp)];have hk:=(qG hx).1;obtain⟨Yh,q1,q2,q3⟩:=num_L2 i a n (k:Int) w s y hs hy Ew y.stops.l.length 0 w.2.2.2 (by omega) hw.ok (fun f g _ _ j hj=>by omega);refine .go q1 ?_;obtain⟨z,f,hf,fz,g,hg,gz,gl',v,hv,hv3⟩:=Qc (w:=(w.1,w.2.1,w.2.2.1,Yh)) q2 hs hy hk;simp only at z hf;have Qn:=q3 f g hf hg k hk v hv;rw[z,if_neg (by simp)];refine .go (gi hf) ?_;rw[fz,if_neg (by simp)];refine .go (gi hg) ?_;rw[gz,if_neg (by simp)];refine .go (gi hv) ?_;refine .go (gi hx) ?_;have hm:=hw.ok.may s (qX hs);have h1:=(hm.may a y hy).inside k x hx;have h2:=(hm.may a y hy).le k x hx;have h3:=(hm.may a y hy).QP;refine .bind (qB.kb (l:=w.1) (lo:=x.span.qO) (hi:=x.span.to) (by omega) (by omega) (by omega)) fun t ht=>?_;have nO:=WQ (w:=(w.1,w.2.1,w.2.2.1,Yh)) (k:=k) q2 hf hg (v+2) (by omega);rw[qI (n:=v+2) (by omega) (by omega),Int.toNat_natCast,Int.toNat_natCast,Int.toNat_natCast];have Tt:WK (w.1,w.2.1,w.2.2.1,(⟨false,Yh.l.set i ⟨false,f.l.set a ⟨false,g.l.set k (v+2)⟩⟩⟩:Sl (Sl (Sl Int)))):=⟨nO,hw.text⟩;refine .bind (num_L4 i a n t (by omega) y (2^12) 0 _ (by omega) Tt hi) fun r hr=>?_;rcases r with r|r
 ·exact .ret (.inl hr)
 exact .ret (.inr ⟨rfl,hr.1,⟨hr.2.len,hr.2.cur,hr.2.insts⟩⟩)
end Xr
namespace Xr
structure X9 (w v:World):Prop where
 len:v.2.2.1.length=w.2.2.1.length
 cur: ∀(j:Nat) s,w.2.2.1[j]? =some s-> ∃s',v.2.2.1[j]? =some s' /\s'.cur=s.cur
theorem X9.refl(w:World):X9 w w:=⟨rfl,fun j s h=>⟨s,h,rfl⟩⟩
theorem X9.trans{w v u:World}(h1:X9 w v)(h2:X9 v u):X9 w u:=by
 refine⟨h2.len.trans h1.len,fun j s h=>?_⟩;obtain⟨s',a,b⟩:=h1.cur j s h;obtain⟨Oz,c,d⟩:=h2.cur j s' a;exact⟨Oz,c,d.trans b⟩
theorem QT.Xs{i:Nat}{w v:World}(h:QT i w v):X9 w v:=⟨h.len,h.cur⟩
def MirQ(w:World)(v:(Int×World)⊕World):Prop:=match v with
 | .inl u=>u.1≠0
 | .inr u=>WK u/\X9 w u
theorem mir_L4(i a:Nat)(ns:Sl Int)(hn:ns.l.length<=2^12): ∀(d k:Nat)(w:World),k+d=ns.l.length->WK w->(∃ s,w.2.2.1[i]? =some s/\a<s.insts.l.length)->
  qB (jc ((i:Int),(a:Int),ns,(k:Int),w.1,w.2.1,w.2.2.1,w.2.2.2)) (Xa i w):=by
 intro d;induction d with
 |zero=>intro k w h hw _;rw[jc.eq_1,if_neg (by simp;omega)];exact .ret ⟨hw,.refl i w⟩
 |succ d ih=>
  intro k w h hw hs;obtain⟨s,hs,ha⟩:=hs;obtain⟨x,hx⟩:=gl (l:=ns.l) (k:=k) (by omega);rw[jc.eq_1,if_pos (by simp;omega),ws (k:=k) (by omega)];refine .go (gi hx) ?_;refine .bind (cL i a x w hw s hs ha) fun v hv=>?_;rcases hv with hv|⟨h0,h1,h2⟩
  ·rw[if_pos (by simpa using hv)];exact .ret hv
  rw[if_neg (by simpa using h0)];obtain⟨s',k1,k2⟩:=h2.insts s hs;exact(ih (k+1) v.2 (by omega) h1 ⟨s',k1,by omega⟩).mono fun u hu=>Xa.trans h2 u hu
theorem mir_L2(i:Nat): ∀(d a:Nat)(w:World),WK w->(∃ s,w.2.2.1[i]? =some s/\a+d=s.insts.l.length)->
  qB (jb ((i:Int),(a:Int),w.1,w.2.1,w.2.2.1,w.2.2.2)) (Xa i w):=by
 intro d;induction d with
 |zero=>
  intro a w hw hs;obtain⟨s,hs,ha⟩:=hs;rw[jb.eq_1];refine .go (gi hs) ?_;rw[if_neg (by simp;omega)];exact .ret ⟨hw,.refl i w⟩
 |succ d ih=>
  intro a w hw hs;obtain⟨s,hs,ha⟩:=hs;have Qk:=hw.ok.small s (qX hs);have nh:=Qk.1;obtain⟨y,hy⟩:=gl (l:=s.insts.l) (k:=a) (by omega);rw[jb.eq_1];refine .go (gi hs) ?_;rw[if_pos (by simp;omega)];refine .go (gi hy) ?_;refine .bind (Cq y (Qk.2 y (qX hy))) fun ns SY=>?_;refine .bind (mir_L4 i a ns SY ns.l.length 0 w (by omega) hw ⟨s,hs,by omega⟩) fun v hv=>?_;rcases v with v|v
  ·exact .ret hv
  obtain⟨h1,h2⟩:=hv;obtain⟨s',k1,k2⟩:=h2.insts s hs;simp only;rw[ws (k:=a) (by omega)];exact(ih (a+1) v h1 ⟨s',k1,by omega⟩).mono fun u hu=>Xa.trans h2 u hu
theorem mir_L0: ∀(i:Nat)(w:World),i<=w.2.2.1.length->WK w->qB (ja ((i:Int)-1,w.1,w.2.1,w.2.2.1,w.2.2.2)) (MirQ w):=by
 intro i;induction i with
 |zero=>
  intro w _ hw;rw[ja.eq_1,if_neg (by simp)];exact .ret ⟨hw,.refl w⟩
 |succ i ih=>
  intro w hi hw;have DJ:=hw.ok.sB;obtain⟨s,hs⟩:=gl (l:=w.2.2.1) (k:=i) (by omega);rw[show ((i+1:Nat):Int)-1=(i:Int) by omega,ja.eq_1,if_pos (by simp),qI (n:=(i:Int)-1) (by omega) (by omega)];refine .bind (mir_L2 i s.insts.l.length 0 w hw ⟨s,hs,by omega⟩) fun v hv=>?_;rcases v with v|v
  ·exact .ret hv
  obtain⟨h1,h2⟩:=hv;refine(ih v (by rw[h2.len];omega) h1).mono fun u hu=>?_;rcases u with u|u
  ·exact hu
  exact⟨hu.1,h2.Xs.trans hu.2⟩
theorem K2(w:World)(hw:WK w):qB (wo w.1 w.2.1 w.2.2.1 w.2.2.2) (fun v=>v.1≠0\/v.1=0/\WK v.2/\X9 w v.2):=by
 have DJ:=hw.ok.sB;unfold wo;rw[qI (n:=(w.2.2.1.length:Int)-1) (by omega) (by omega)];refine .bind (mir_L0 w.2.2.1.length w (xJ _) hw) fun v hv=>?_;rcases v with v|v
 ·exact .ret (.inl hv)
 exact .ret (.inr ⟨rfl,hv.1,hv.2⟩)
end Xr
namespace Xr
section
variable {α:Type} (key:α->ql)
theorem pos_map(x:α)(s:List α): ∀k,pos key x s k=pos id (key x) (s.map key) k:=by
 intro k;induction k with
 |zero=>rfl
 |succ k ih=>
  rw[pos,pos,List.getElem?_map];cases s[k]? with
  |none=>rfl
  |some y=>simp only[Option.map_some,id,ih]
theorem EE(x:α)(s:List α):(tV key s x).map key=tV id (s.map key) (key x):=by
 unfold tV;rw[pos_map key x s s.length,List.length_map];simp[List.map_take,List.map_drop]
theorem Mb: ∀(r s:List α),(xV key s r).map key=xV id (s.map key) (r.map key):=by
 intro r;induction r with
 |nil=>intro s;rfl
 |cons x r ih=>
  intro s;show(xV key (tV key s x) r).map key=xV id (tV id (s.map key) (key x)) (r.map key);rw[ih,EE]
end
def gE(e:qo):Int:=(e.text.length:Int)-(e.span.to-e.span.qO)
def tw(l:List qo):Int:=(l.map gE).sum
def wu(l:List qo):Nat:=(l.map fun e=>e.text.length).sum
theorem sumG_le{n:Int}: ∀(l:List qo),(∀ e∈l,e.span.qO<=e.span.to)->tw l<=wu l:=by
 intro l;induction l with
 |nil=>intro _;simp[tw,wu]
 |cons e l ih=>
  intro h;have h1:=h e (by simp);have h2:=ih fun e' W8=>h e' (by simp[W8]);simp only[tw,wu,List.map_cons,List.sum_cons,gE]at*
  omega
theorem Dq{l r:List qo}(h:l.Perm r):tw l=tw r:=by
 induction h with
 |nil=>rfl
 |cons x _ ih=>simp only[tw,List.map_cons,List.sum_cons]at *; omega
 |swap x y l=>simp only[tw,List.map_cons,List.sum_cons];omega
 |trans _ _ ih1 ih2=>exact ih1.trans ih2
theorem Dr{l r:List qo}(h:l.Perm r):wu l=wu r:=by
 induction h with
 |nil=>rfl
 |cons x _ ih=>simp only[wu,List.map_cons,List.sum_cons]at *; omega
 |swap x y l=>simp only[wu,List.map_cons,List.sum_cons];omega
 |trans _ _ ih1 ih2=>exact ih1.trans ih2
def EB(n:Int)(p:ql):Prop:=0<=p.qO/\p.qO<=p.to/\p.to<=n
theorem TG(p:ql)(n:Int): ∃b:Bool,tj p n=some b/\(b=true↔EB n p):=by
 unfold tj EB;by_cases h1:0<=p.qO<;>by_cases h2:p.qO<=p.to<;>simp[h1,h2]
theorem sumT_sp{n:Int}(hn:0<=n): ∀(l:List qo),(∀ e∈l,EB n e.span)->(wu l:Int)<=tw l+l.length*n:=by
 intro l;induction l with
 |nil=>intro _;simp[tw,wu]
 |cons e l ih=>
  intro h;have h1:=h e (by simp);have h2:=ih fun e' W8=>h e' (by simp[W8]);unfold EB at h1;simp only[tw,wu,List.map_cons,List.sum_cons,gE,List.length_cons]at*
  push_cast at*
  rw[Int.add_mul];omega
structure Xy (n:Int) (es:List qo):Prop where
 XK: ∀e∈es,EB n e.span
 apart:(xV (·.span) [] es).Pairwise fun a b=>a.span.to<=b.span.qO
theorem Cv(n:Int)(es:Sl qo)(hl:es.l.length<2^60): ∀(r:List qo)(k:Nat),es.l.drop k=r-> ∃v,yR (n,es,(k:Int))=some v/\(v= .inl 3\/v= .inr ()/\ ∀e∈r,EB n e.span):=by
 intro r;induction r with
 |nil=>
  intro k h;have:=zc h;rw[yR.eq_1,if_neg (by simp;omega)];exact⟨_,rfl,.inr ⟨rfl,by simp⟩⟩
 |cons e r ih=>
  intro k h;obtain⟨h1,h2,h3⟩:=zp h;obtain⟨b,g1,g2⟩:=TG e.span n;rw[yR.eq_1,if_pos (by simp;omega),gi h1,ws (k:=k) (by omega)];simp only[xe,z7,g1];cases b with
  |false=>exact⟨_,rfl,.inl rfl⟩
  |true=>
   obtain⟨v,q1,q2⟩:=ih (k+1) h2;rw[if_neg (by simp),q1];refine⟨v,rfl, ?_⟩;rcases q2 with q2|⟨q2,q3⟩
   ·exact .inl q2
   refine .inr ⟨q2,fun e' W8=>?_⟩;rcases List.mem_cons.1 W8 with rfl|W8
   ·exact g2.1 rfl
   exact q3 e' W8
theorem Dj(es:Sl qo)(hl:es.l.length<=2^20): ∀(r:List qo)(k:Nat)(out:List ql),es.l.drop k=r->out.length=k->uN (es,(k:Int),out)=some (out++r.map (·.span)):=by
 intro r;induction r with
 |nil=>
  intro k out h _;have:=zc h;rw[uN.eq_1,if_neg (by simp;omega)];simp
 |cons e r ih=>
  intro k out h ho;obtain⟨h1,h2,h3⟩:=zp h;rw[uN.eq_1,if_pos (by simp;omega),gi h1,ws (k:=k) (by omega)];simp only[xe,z7];rw[if_pos qC,ih (k+1) (out++[e.span]) h2 (by simp;omega)];simp
theorem Ag(s:Sl ql)(hl:s.l.length<2^60): ∀(d k:Nat),k+d=s.l.length-> ∃v,yf (s,(k:Int))=some v/\(v= .inl false\/v= .inr ()/\ ∀(j:Nat) x,k<=j->s.l[j]? =some x->x.qO<=x.to/\(∀ y,0<j->s.l[j-1]? =some y->y.to<=x.qO)):=by
 intro d;induction d with
 |zero=>
  intro k h;rw[yf.eq_1,if_neg (by simp;omega)];exact⟨_,rfl,.inr ⟨rfl,fun j x hj hx=>by have:=(qG hx).1;omega⟩⟩
 |succ d ih=>
  intro k h;obtain⟨x,hx⟩:=gl (l:=s.l) (k:=k) (by omega);obtain⟨v,q1,q2⟩:=ih (k+1) (by omega);rw[yf.eq_1,if_pos (by simp;omega),gi hx,ws (k:=k) (by omega)];simp only[xe,z7];by_cases c1:x.qO>x.to
  ·rw[if_pos (by simpa using c1)];exact⟨_,rfl,.inl rfl⟩
  rw[if_neg (by simpa using c1)];cases k with
  |zero=>
   rw[if_neg (by simp),q1];refine⟨v,rfl, ?_⟩;rcases q2 with q2|⟨q2,q3⟩
   ·exact .inl q2
   refine .inr ⟨q2,fun j z hj hz=>?_⟩;by_cases c:j=0
   ·subst c;rw[hx]at hz;cases hz;exact⟨by omega,fun y hy=>by omega⟩
   exact q3 j z (by omega) hz
  |succ k=>
   obtain⟨y,hy⟩:=gl (l:=s.l) (k:=k) (by omega);rw[if_pos (by simp<;>omega),show IntKind.i64.wrap (((k+1:Nat):Int)-1)=(k:Int)from by rw[qI (by omega) (by omega)];omega,gi hy];simp only[z7];by_cases c2:x.qO<=y.qO
   ·rw[if_pos (by simpa using c2)];exact⟨_,rfl,.inl rfl⟩
   rw[if_neg (by simpa using c2)];by_cases c3:x.qO<y.to
   ·rw[if_pos (by simpa using c3)];exact⟨_,rfl,.inl rfl⟩
   rw[if_neg (by simpa using c3),q1];refine⟨v,rfl, ?_⟩;rcases q2 with q2|⟨q2,q3⟩
   ·exact .inl q2
   refine .inr ⟨q2,fun j z hj hz=>?_⟩;by_cases c:j=k+1
   ·subst c;rw[hx]at hz;cases hz;refine⟨by omega,fun y' _ hy' =>?_⟩;rw[Nat.add_sub_cancel,hy]at hy';cases hy';omega
   exact q3 j z (by omega) hz
theorem Jl(s:List ql)(h: ∀(j:Nat) x,s[j]? =some x->x.qO<=x.to/\(∀ y,0<j->s[j-1]? =some y->y.to<=x.qO)):s.Pairwise fun a b=>a.to<=b.qO:=by
 rw[List.pairwise_iff_getElem];intro i j hi hj DN;have key: ∀(d:Nat)(x:ql),s[i+1+d]? =some x->(s[i]'hi).to<=x.qO:=by
  intro d;induction d with
  |zero=>
   intro x hx;exact(h (i+1) x hx).2 _ (by omega) (by rw[Nat.add_sub_cancel];exact kU hi)
  |succ d ih=>
   intro x hx;have hl:=(qG hx).1;obtain⟨y,hy⟩:=gl (l:=s) (k:=i+1+d) (by omega);have h1:=ih y hy;have h2:=(h (i+1+d) y hy).1;have h3:=(h (i+1+(d+1)) x hx).2 y (by omega) (by rw[show i+1+(d+1)-1=i+1+d by omega];exact hy);omega
 have:=key (j-(i+1)) (s[j]'hj) (by rw[show i+1+(j-(i+1))=j by omega];exact kU hj);exact this
theorem AS(es:Sl qo)(hl:es.l.length<=2^20)(hb: ∀e∈es.l,-(2^36)<=e.span.to-e.span.qO/\e.span.to-e.span.qO<=2^36): ∀(r:List qo)(k:Nat)(n:Int),es.l.drop k=r-> -(k:Int)*2^38-2^40<=n->n+wu r+r.length*2^36<=2^61->uM (n,es,(k:Int))=some (n+tw r):=by
 intro r;induction r with
 |nil=>
  intro k n h _ _;have:=zc h;rw[uM.eq_1,if_neg (by simp;omega)];simp[tw]
 |cons e r ih=>
  intro k n h DO To;obtain⟨h1,h2,h3⟩:=zp h;obtain⟨b2,b3⟩:=hb e (qX h1);have Xm:(k:Int)<=2^20:=by omega
  have hT:(wu (e::r):Int)=e.text.length+wu r:=by simp[wu]
  simp only[List.length_cons]at To;rw[hT]at To;rw[uM.eq_1,if_pos (by simp;omega),gi h1,ws (k:=k) (by omega)];simp only[xe,z7];rw[qI (n:=n+(e.text.length:Int)) (by omega) (by omega),qI (n:=e.span.to-e.span.qO) (by omega) (by omega),qI (n:=n+(e.text.length:Int)-(e.span.to-e.span.qO)) (by omega) (by omega)];rw[ih (k+1) _ h2 (by push_cast;omega) (by push_cast;omega)];simp only[tw,List.map_cons,List.sum_cons,gE];congr 1;omega
theorem TH(n:Int)(hn:0<=n/\n<=2^36)(es:Sl qo)(hl:es.l.length<=2^19)(ht:wu es.l<=2^60):qB (aL n es) (fun v=>v=0->Xy n es.l/\n+tw es.l<=65536):=by
 have hR:qB (su n es) (fun v=>v=0->Xy n es.l):=by
  unfold su;obtain⟨v,g1,g2⟩:=Cv n es (by omega) es.l 0 rfl;refine .go g1 ?_;rcases g2 with rfl|⟨rfl,g2⟩
  ·exact .ret fun h=>absurd h (by decide)
  have hs:dw es=some ⟨(es.l.map (·.span)).isEmpty,es.l.map (·.span)⟩:=by
   unfold dw;rw[show (0:Int)=((0:Nat):Int)from rfl,Dj es (by omega) es.l 0 [] rfl rfl];rfl
  refine .go hs ?_;have sI:=(mZ id (es.l.map (·.span)) []).length_eq;simp only[List.nil_append,List.length_map]at sI;have hA:qB (dp ⟨(es.l.map (·.span)).isEmpty,es.l.map (·.span)⟩) (fun b=>b=true->(xV id [] (es.l.map (·.span))).Pairwise fun a b=>a.to<=b.qO):=by
   unfold dp;refine .go (Bm _ (by simp;omega)) ?_;obtain⟨w,q1,q2⟩:=Ag ⟨(xV id [] (es.l.map (·.span))).isEmpty,xV id [] (es.l.map (·.span))⟩ (by simp only;omega) (xV id [] (es.l.map (·.span))).length 0 (by simp);refine .go q1 ?_;rcases q2 with rfl|⟨rfl,q2⟩
   ·exact .ret (by simp)
   exact .ret fun _=>Jl _ fun j x hx=>q2 j x (by omega) hx
  refine .bind hA fun b hb=>?_;refine .ite (fun _=> .ret fun h=>absurd h (by decide)) fun c=> .ret fun _=>⟨g2, ?_⟩;have xQ:=hb (by simpa using c);rw[show xV id [] (es.l.map (·.span))=(xV (·.span) [] es.l).map (·.span)from(Mb (fun x:qo=>x.span) es.l []).symm]at xQ;exact List.pairwise_map.1 xQ
 unfold aL;refine .bind hR fun v hv=>?_;refine .ite (fun c=> .ret fun h=>absurd h (by simpa using c)) fun c=>?_;have sH:=hv (by simpa using c);have hG:dr n es=some (n+tw es.l):=by
  unfold dr;rw[show (0:Int)=((0:Nat):Int)from rfl,AS es (by omega) (fun e he=>⟨by have:=sH.XK e he;unfold EB at this;omega,by have:=sH.XK e he;unfold EB at this;omega⟩) es.l 0 n rfl (by omega) (by omega)];rfl
 refine .go hG ?_;refine .ite (fun _=> .ret fun h=>absurd h (by decide)) fun c=> .ret fun _=>⟨sH,by simpa using c⟩
end Xr
namespace Xr
abbrev WO(w:World):=T3 mf w.1 w.2.1 w.2.2.1 w.2.2.2
theorem T3.take{w:World}(h:WO w)(n:Nat):T3 mf w.1 w.2.1 (w.2.2.1.take n) ⟨w.2.2.2.nil,w.2.2.2.l.take n⟩:=by
 have get: ∀(j:Nat) s,(w.2.2.1.take n)[j]? =some s->w.2.2.1[j]? =some s:=fun j s hs=>by
  exact tW
 refine⟨h.blen,h.ne,h.Wi,h.T8,h.XK,by have:=h.sB;simp;omega,fun s hs=>h.small s (List.mem_of_mem_take hs),fun s hs=>h.may s (List.mem_of_mem_take hs),by simp[h.Jz],fun c=>h.fnn fun c2=>c (by rw[c2];simp), ?_,fun s hs=>h.stop s (List.mem_of_mem_take hs)⟩;intro j s f hs hf;have hj:=(qG hf).1;simp at hj;simp only at hf;rw[List.getElem?_take_of_lt (by omega)]at hf;exact h.each j s f (get j s hs) hf
theorem lead_L2(n:Nat)(l:Sl qo)(n0:Int)(UE:0<=n0/\n0<=65536)(hT:wu l.l<=2^36)(sG: ∀e∈l.l,0<=e.span.qO/\e.span.qO<=e.span.to)(hap:l.l.Pairwise fun a b=>a.span.to<=b.span.qO)(SW:l.l.length<=2^20):
  ∀(k:Nat)(w:World),k<=l.l.length->WO w->w.2.2.1.length=n->(w.1.length:Int)=n0+tw (l.l.drop k)->(∀ e∈l.l.take k,e.span.to<=w.1.length)->
  qB (xz ((n:Int),l,(k:Int)-1,w.1,w.2.1,w.2.2.1,w.2.2.2)) (fun v:World=>WO v/\(v.1.length:Int)=n0+tw l.l/\X9 w v):=by
 intro k;induction k with
 |zero=>
  intro w _ hw _ hlen _;rw[xz.eq_1,if_neg (by simp)];exact .ret ⟨hw,by simpa using hlen,.refl w⟩
 |succ k ih=>
  intro w hk hw hwn hlen hto;obtain⟨e,he⟩:=gl (l:=l.l) (k:=k) (by omega);have hem:=qX he;have hei:=sG e hem;have hd:l.l.drop k=e::l.l.drop (k+1):=by
   have QO:=(qG he).1;rw[List.drop_eq_getElem_cons QO];rw[kU QO]at he;cases he;rfl
  have htk:e∈l.l.take (k+1):=by
   rw[List.take_add_one,he];simp
  have rE:=hto e htk;have hsT: ∀j,wu (l.l.drop j)<=wu l.l:=by
   intro j;have:=List.take_append_drop j l.l;have h5:=congrArg wu this;simp only[wu,List.map_append,List.sum_append]at h5 |-;omega
  have hsg:=sumG_le (n:=0) (l.l.drop (k+1)) fun e' W8=>(sG e' (List.mem_of_mem_drop W8)).2;have ht1:=hsT (k+1);have ht0:=hsT k;have het:e.text.length<=wu (l.l.drop k):=by
   rw[hd];simp only[wu,List.map_cons,List.sum_cons];omega
  have hE:gx e w.1.length:=⟨by omega,by omega,by omega,by omega,by omega⟩;have hnext: ∀(v:World),WO v->v.1=newText w.1 e->X9 w v->qB (xz ((n:Int),l,(k:Int)-1,v.1,v.2.1,v.2.2.1,v.2.2.2)) (fun v:World=>WO v/\(v.1.length:Int)=n0+tw l.l/\X9 w v):=by
   intro v hv ht hs;have Et:=ZU w.1 e hE;rw[<- ht]at Et;refine(ih v (by omega) hv (by rw[hs.len];exact hwn) ?_ ?_).mono fun u hu=>⟨hu.1,hu.2.1,hs.trans hu.2.2⟩
   ·rw[hd];simp only[tw,List.map_cons,List.sum_cons,gE]at hlen |-;omega
   intro e' W8;obtain⟨j,hj⟩:=jz W8;have BK:j<k:=by have:=(qG hj).1;simp at this;omega
   rw[List.getElem?_take_of_lt BK]at hj;have M3:=(qG hj).1;have mF:=(qG he).1;have:=List.pairwise_iff_getElem.1 hap j k M3 mF BK;rw[kU M3]at hj;rw[kU mF]at he;cases hj;cases he;omega
  rw[show ((k+1:Nat):Int)-1=(k:Int) by omega,xz.eq_1,if_pos (by simp),show IntKind.i64.wrap ((k:Int)-1)=(k:Int)-1 from qI (by omega) (by omega)];have DJ:=hw.sB;by_cases hn:0<n
  ·obtain⟨s,hs⟩:=gl (l:=w.2.2.1) (k:=n-1) (by omega);rw[if_pos (by simpa using hn),show IntKind.i64.wrap ((n:Int)-1)=((n-1:Nat):Int)from by rw[qI (by omega) (by omega)];omega];refine .go (gi hs) ?_;refine .go (gi he) ?_;refine .bind (Zq s e.span (hw.small s (qX hs))) fun o ho=>?_;obtain⟨v,g1,g2⟩:=Mg iZ hw hE (by omega) ((n-1:Nat):Int) o.1 o.2 true (by
    rcases ho with rfl|ho
    ·exact .inl ⟨rfl,rfl⟩
    have:=ho.nat
    obtain⟨a',k',i,x,q1,q2,q3,q4,_,_,q5⟩:=ho
    exact .inr ⟨n-1,s,rfl,hs,by omega,.inr ⟨a',k',i,x,q1,q2,q3,q4,q5⟩⟩)
   refine .go g1 ?_;exact hnext v g2.ok g2.text ⟨g2.len,g2.cur⟩
  rw[if_neg (by simpa using hn)];refine .go (gi he) ?_;obtain⟨v,g1,g2⟩:=Mg iZ hw hE (by omega) (IntKind.i64.wrap ((n:Int)-1)) (-1) (-1) true (.inl ⟨rfl,rfl⟩);refine .go g1 ?_;exact hnext v g2.ok g2.text ⟨g2.len,g2.cur⟩
theorem lead_L0(es:Sl qo)(he:es.l.length<2^60)(w:qa)(w2:Sl qx)(ss:List qc)(fl:Sl (Sl (Sl Int)))(hs: ∀s∈ss,jX s)(DJ:ss.length<=16): ∀k,k<=ss.length->qB (jN (es,(k:Int),w,w2,ss,fl)) (fun v=> ∃n:Nat,v=n/\n<=k):=by
 intro k;induction k with
 |zero=>intro _;rw[jN.eq_1,if_neg (by simp)];exact .ret ⟨0,rfl,xJ _⟩
 |succ k ih=>
  intro hk;obtain⟨s,nh⟩:=gl (l:=ss) (k:=k) (by omega);rw[jN.eq_1,if_pos (by simp<;>omega),show IntKind.i64.wrap (((k+1:Nat):Int)-1)=(k:Int)from by rw[qI (by omega) (by omega)];omega];refine .go (gi nh) ?_;refine .bind (Dl s es (hs s (qX nh)) he) fun b _=>?_;refine .ite (fun _=>?_) fun _=> .ret ⟨k+1,rfl,xJ _⟩;exact tW
structure Led (w:World) (es:List qo) (v:World):Prop where
 ok:WO v
 text:(v.1.length:Int)=w.1.length+tw es
 len:v.2.2.1.length<=w.2.2.1.length
 cur: ∀(j:Nat) s',v.2.2.1[j]? =some s' -> ∃s,w.2.2.1[j]? =some s/\s'.cur=s.cur
theorem rU(w:World)(hw:WO w)(hn:w.1.length<=65536)(es:Sl qo)(hE:Xy w.1.length es.l)(hT:wu es.l<=2^36)(hl:es.l.length<=2^19):qB (ym es w.1 w.2.1 w.2.2.1 w.2.2.2) (Led w es.l):=by
 have hp:=mZ (·.span) es.l [];simp only[List.nil_append]at hp;have sI:=hp.length_eq;unfold ym;refine .bind (lead_L0 es (by omega) w.1 w.2.1 w.2.2.1 w.2.2.2 hw.small hw.sB w.2.2.1.length (xJ _)) fun v hv=>?_;obtain⟨n,rfl,hnl⟩:=hv;refine .go (Xg _ _ hnl) ?_;refine .go (Xg _ _ (by rw[hw.Jz];exact hnl)) ?_;refine .go (Bn es (by omega)) ?_;have Tt:=hw.take n;have tR: ∀e∈xV (·.span) [] es.l,EB w.1.length e.span:=fun e he=>hE.XK e (hp.mem_iff.1 he);have hd0:tw ((xV (·.span) [] es.l).drop (xV (·.span) [] es.l).length)=0:=by simp[tw]
 have h:=lead_L2 n ⟨(xV (·.span) [] es.l).isEmpty,xV (·.span) [] es.l⟩ w.1.length (by omega) (by simp only;rw[Dr hp];exact hT) (fun e he=>by have:=tR e he;unfold EB at this;omega) hE.apart (by simp only;omega)
  (xV (·.span) [] es.l).length (w.1,w.2.1,w.2.2.1.take n,⟨w.2.2.2.nil,w.2.2.2.l.take n⟩) (xJ _) Tt (by simp;omega) (by simp only;rw[hd0];omega) (fun e he=>by have:=tR e (List.mem_of_mem_take he);unfold EB at this;exact this.2.2)
 rw[qI (n:=((xV (·.span) [] es.l).length:Int)-1) (by omega) (by omega)];refine .bind h fun u hu=> .ret ?_;change Led w es.l u;obtain⟨h1,h2,h3⟩:=hu;simp only[Dq hp]at h2;refine⟨h1,h2, ?_, ?_⟩
 ·have:=h3.len;exact tW
 intro j s' eO;have hj:=(qG eO).1;have hlen:=h3.len;simp only[List.length_take]at hlen;obtain⟨s,hs⟩:=gl (l:=w.2.2.1) (k:=j) (by omega);have XH:(w.2.2.1.take n)[j]? =some s:=by rw[List.getElem?_take_of_lt (by omega)];exact hs
 obtain⟨s2,k1,k2⟩:=h3.cur j s XH;exact tW
end Xr
namespace Xr
theorem lies_eq(s:ql)(l:Sl ql)(hL:l.l.length<2^60):uJ s l=some (l.l.any fun p=>decide (xo s p)):=by
 unfold uJ;rw[show (0:Int)=((0:Nat):Int)from rfl,TC s l hL l.l 0 rfl];exact tW
theorem Kr{s:qc}(hs:jX s)(n:Int):(vU n s.insts.l).length<=2^24:=by
 have h1:=Qs hs.2;have h2:s.insts.l.length*2^12<=2^12*2^12:=Nat.mul_le_mul hs.1 (xJ _);have h3: ∀is:List qw,(vU n is).length<=many is:=by
  intro is;induction is with
  |nil=>simp[vU,many]
  |cons i is ih=>
   have:=VO n i.stops.l;simp only[vU,many,List.flatMap_cons,List.length_append,List.map_cons,List.sum_cons]at*
   omega
 have:=h3 s.insts.l;omega
structure SS (n:Int) (ss:List qc):Prop where
 sB:ss.length<=16
 small: ∀s∈ss,jX s
 may: ∀s∈ss,cx s.insts.l n
 stop: ∀s∈ss,∀ i∈s.insts.l,∀ x∈i.stops.l,mf x
theorem cx.filter{is:List qw}{n:Int}(h:cx is n)(p:qw->Bool):cx (is.filter p) n:=by
 have hp:is.Pairwise fun i j=>i.span.to<=j.span.qO:=by
  rw[List.pairwise_iff_getElem];intro a b ha hb eN;exact h.D7 a b _ _ eN (kU ha) (kU hb)
 have hf:=hp.sublist (List.filter_sublist (l:=is) (p:=p));constructor
 ·intro a i hi;obtain⟨b,hb⟩:=jz (List.mem_filter.1 (qX hi)).1;exact h.may b i hb
 intro a b i j eN hi hj;have ha:=(qG hi).1;have hb:=(qG hj).1;have:=List.pairwise_iff_getElem.1 hf a b ha hb eN;exact tW
def Kv(ss:List qc)(i:Nat)(x:qw):Bool:=if i=0 then true else match ss[i-1]? with
 |some p=>(vU p.cur p.insts.l).any fun q=>decide (xo x.span q)
 |none=>false
theorem AA(w:qa)(w2:Sl qx)(ss:List qc)(fl:Sl (Sl (Sl Int)))(hs: ∀s∈ss,jX s)(DJ:ss.length<=16)(i:Nat)(hi:i<ss.length)(s:qc)(Ep:jX s): ∀(r:List qw)(a:Nat)(is:List qw),s.insts.l.drop a=r->is.length<=a->
  xk ((i:Int),(a:Int),w,w2,ss,fl,s,is)=some (is++r.filter (Kv ss i)):=by
 intro r;have nh:=Ep.1;induction r with
 |nil=>
  intro a is h _;have:=zc h;rw[xk.eq_1,if_neg (by simp;omega)];simp
 |cons x r ih=>
  intro a is h ho;obtain⟨h1,h2,h3⟩:=zp h;rw[xk.eq_1,if_pos (by simp;omega),ws (k:=a) (by omega)];have e1:=ih (a+1) (is++[x]) h2 (by simp;omega);have e2:=ih (a+1) is h2 (by omega);by_cases c:i=0
  ·subst c;rw[if_pos (by simp),gi h1];simp only[xe,z7];rw[if_pos qC,e1];simp[List.filter_cons,Kv]
  obtain⟨p,hp⟩:=gl (l:=ss) (k:=i-1) (by omega);have C3:=hs p (qX hp);rw[if_neg (by simp;omega),gi h1];simp only[xe,z7];rw[show IntKind.i64.wrap ((i:Int)-1)=((i-1:Nat):Int)from by rw[qI (by omega) (by omega)];omega,gi hp];simp only[z7];rw[QJ p.cur p.insts C3.2 C3.1];simp only[z7];have hsl:=Kr C3 p.cur;rw[lies_eq _ _ (by simp only;omega)];simp only[z7];have XH:Kv ss i x=(vU p.cur p.insts.l).any fun q=>decide (xo x.span q):=by
   unfold Kv;rw[if_neg c,hp]
  rw[List.filter_cons,XH];cases(vU p.cur p.insts.l).any fun q=>decide (xo x.span q)with
  |true=>
   rw[if_pos rfl,if_pos qC,e1];simp
  |false=>
   rw[if_neg (by simp),e2];simp
def H4(k:Nat)(ss:List qc):Prop:= ∀(j:Nat) s,j<k->ss[j]? =some s->s.insts.l≠[]/\vU s.cur s.insts.l≠[]/\(0<j-> ∀p,ss[j-1]? =some p-> ∀x∈s.insts.l,lD x.span (vU p.cur p.insts.l))
def Curs(dL ss:List qc):Prop:=ss.length<=dL.length/\ ∀(j:Nat) s',ss[j]? =some s' -> ∃s,dL[j]? =some s/\s'.cur=s.cur
structure Fin (n:Int) (dL ss:List qc):Prop where
 ok:SS n ss
 closed:H4 ss.length ss
 Jo:Curs dL ss
theorem Az(n:Int)(w:qa)(w2:Sl qx)(fl:Sl (Sl (Sl Int)))(dL:List qc): ∀(d i:Nat)(ss:List qc),i+d=ss.length->SS n ss->H4 i ss->Curs dL ss->
  qB (jq ((i:Int),w,w2,ss,fl)) (fun v=>match v with| .inl y=>Fin n dL y.2| .inr y=>Fin n dL y):=by
 intro d;induction d with
 |zero=>
  intro i ss h H hc Ys;rw[jq.eq_1,if_neg (by simp;omega)];obtain rfl:i=ss.length:=by omega
  exact .ret ⟨H,hc,Ys⟩
 |succ d ih=>
  intro i ss h H hc Ys;have DJ:=H.sB;obtain⟨s,hs⟩:=gl (l:=ss) (k:=i) (by omega);have tR:=qX hs;have Qk:=H.small s tR;rw[jq.eq_1,if_pos (by simp;omega),ws (k:=i) (by omega)];refine .go (gi hs) ?_;have e2:=AA w w2 ss fl H.small DJ i (by omega) s Qk s.insts.l 0 [] rfl (by simp);rw[List.nil_append,show((0:Nat):Int)=0 from rfl]at e2;refine .go e2 ?_;generalize hF:s.insts.l.filter (Kv ss i)=F;have hFs: ∀x∈F,x∈s.insts.l/\Kv ss i x=true:=fun x hx=>by rw[<- hF]at hx;exact List.mem_filter.1 hx
  have hFl:F.length<=s.insts.l.length:=by rw[<- hF];exact List.length_filter_le _ _
  have hsmF:jX ⟨s.cur,⟨F.isEmpty,F⟩⟩:=⟨by have:=Qk.1;simp only;omega,fun x hx=>Qk.2 x (hFs x hx).1⟩;refine .go (QJ s.cur ⟨F.isEmpty,F⟩ hsmF.2 hsmF.1) ?_;by_cases ce:vU s.cur F=[]
  ·rw[if_pos (by simp[ce])];refine .go (Xg _ _ (by omega)) ?_;have tk: ∀(j:Nat) x,(ss.take i)[j]? =some x->j<i/\ss[j]? =some x:=fun j x hx=>by
    have:=(qG hx).1;simp at this;rw[List.getElem?_take_of_lt (by omega)]at hx;exact⟨by omega,hx⟩
   refine .ret ⟨⟨by simp;omega,fun s hs=>H.small s (List.mem_of_mem_take hs),fun s hs=>H.may s (List.mem_of_mem_take hs),fun s hs=>H.stop s (List.mem_of_mem_take hs)⟩, ?_,⟨by have:=Ys.1;simp;omega,fun j x hx=>Ys.2 j x (tk j x hx).2⟩⟩;intro j x hj hx;obtain⟨k1,k2⟩:=tk j x hx;obtain⟨q1,q2,q3⟩:=hc j x k1 k2;exact⟨q1,q2,fun hj0 p hp=>q3 hj0 p (tk (j-1) p hp).2⟩
  rw[if_neg (by simpa using ce),Int.toNat_natCast];have jv:F≠[]:=fun c=>ce (by rw[c];rfl);have qk: ∀(j:Nat) x,(ss.set i ⟨s.cur,⟨F.isEmpty,F⟩⟩)[j]? =some x->(j=i/\x=⟨s.cur,⟨F.isEmpty,F⟩⟩)\/(j≠i/\ss[j]? =some x):=fun j x hx=>by
   rw[xP]at hx;split at hx
   ·rename_i c;cases hx;exact .inl ⟨c.1.symm,rfl⟩
   rename_i c;refine .inr ⟨fun c2=>c ⟨c2.symm,by omega⟩,hx⟩
  refine ih (i+1) _ (by simp;omega) ⟨by simp;omega, ?_, ?_, ?_⟩ ?_ ⟨by have:=Ys.1;simp;omega, ?_⟩
  ·intro x hx;rcases List.mem_or_eq_of_mem_set hx with hx|rfl
   ·exact H.small x hx
   exact hsmF
  ·intro x hx;rcases List.mem_or_eq_of_mem_set hx with hx|rfl
   ·exact H.may x hx
   show cx F n;rw[<- hF];exact(H.may s tR).filter _
  ·intro x hx;rcases List.mem_or_eq_of_mem_set hx with hx|rfl
   ·exact H.stop x hx
   exact fun y hy=>H.stop s tR y (hFs y hy).1
  ·intro j x hj hx;rcases qk j x hx with ⟨rfl,rfl⟩|⟨hji,hx⟩
   ·refine⟨jv,ce,fun hj0 p hp y hy=>?_⟩;rw[xP,if_neg (by omega)]at hp;have:=(hFs y hy).2;unfold Kv at this;rw[if_neg (by omega),hp]at this;simpa[lD]using this
   obtain⟨q1,q2,q3⟩:=hc j x (by omega) hx;refine⟨q1,q2,fun hj0 p hp=>q3 hj0 p ?_⟩;rw[xP,if_neg (by omega)]at hp;exact hp
  intro j x hx;rcases qk j x hx with ⟨rfl,rfl⟩|⟨_,hx⟩
  ·exact(by
    obtain⟨s0,k1,k2⟩:=Ys.2 j s hs
    exact⟨s0,k1,k2⟩)
  exact Ys.2 j x hx
theorem WH(w:World)(hw:WO w):qB (vg w.1 w.2.1 w.2.2.1 w.2.2.2) (fun v=>match v with| .inl y=>Fin w.1.length w.2.2.1 y| .inr y=>Fin w.1.length w.2.2.1 y):=by
 unfold vg;refine .bind (Az w.1.length w.1 w.2.1 w.2.2.2 w.2.2.1 w.2.2.1.length 0 w.2.2.1 (by omega) ⟨hw.sB,hw.small,hw.may,hw.stop⟩ (fun j s hj=>by omega) ⟨xJ _,fun j s hs=>⟨s,hs,rfl⟩⟩) fun v hv=>?_;rcases v with v|v<;>exact .ret hv
end Xr
namespace Xr
def PZ(l:List qu)(k:Nat):Prop:= ∀(r:Nat) x,r<k->l[r]? =some x-> -1<=x.up/\x.up<r/\ ∀(q:Nat) y,q<r->x.up<q->l[q]? =some y->x.up<=y.up
theorem EC(l:Sl qu)(b:Nat): ∀a:Nat,a<l.l.length->PZ l.l (a+1)-> ∃t:Bool,gq (l,(a:Int),(b:Int))=some (if t=true then .inl true else .inr ())/\(t=true↔b<a/\ ∀(q:Nat) y,b<q->q<=a->l.l[q]? =some y->(b:Int)<=y.up):=by
 intro a;induction a using Nat.strongRecOn with
 |_ a ih=>
 intro ha hp;obtain⟨x,hx⟩:=gl ha;obtain⟨p1,p2,p3⟩:=hp a x (by omega) hx;rw[gq.eq_1,if_pos (by simp;omega),gi hx];simp only[xe,z7];by_cases c0:0<=x.up
 ·obtain⟨u,hu⟩: ∃u:Nat,x.up=u:=⟨x.up.toNat,by omega⟩;rw[if_pos (by simpa using c0),if_pos (by simpa using p2)];by_cases c1:x.up=b
  ·rw[if_pos (by simpa using c1)];refine⟨true,rfl,fun _=>⟨by omega,fun q y h1 h2 hy=>?_⟩,fun _=>rfl⟩;by_cases c:q=a
   ·subst c;rw[hx]at hy;cases hy;omega
   have:=p3 q y (by omega) (by omega) hy;omega
  rw[if_neg (by simpa using c1),hu];obtain⟨t,g1,g2⟩:=ih u (by omega) (by omega) (fun r z hr hz=>hp r z (by omega) hz);refine⟨t,g1,g2.trans ⟨fun h=>⟨by omega,fun q y h1 h2 hy=>?_⟩,fun h=>?_⟩⟩
  ·by_cases c:q=a
   ·subst c;rw[hx]at hy;cases hy;omega
   by_cases c2:q<=u
   ·exact h.2 q y h1 c2 hy
   have:=p3 q y (by omega) (by omega) hy;omega
  have:=h.2 a x h.1 (xJ _) hx;exact⟨by omega,fun q y h1 h2 hy=>h.2 q y h1 (by omega) hy⟩
 rw[if_neg (by simpa using c0)];refine⟨false,rfl,fun h=>(by cases h),fun h=>?_⟩;have:=h.2 a x h.1 (xJ _) hx;omega
theorem in_ok(l:Sl qu)(a b:Nat)(ha:a<l.l.length)(hp:PZ l.l (a+1)): ∃t:Bool,sj l (a:Int) (b:Int)=some t/\(t=true↔b<a/\ ∀(q:Nat) y,b<q->q<=a->l.l[q]? =some y->(b:Int)<=y.up):=by
 obtain⟨t,h1,h2⟩:=EC l b a ha hp;refine⟨t, ?_,h2⟩;unfold sj;rw[h1];cases t<;>rfl
def Sibs(l:List qu)(x:qu)(j k:Nat):Prop:= ∀(q:Nat) y,j<=q->q<k->l[q]? =some y->y.up=x.up->y.span.to<=x.span.qO
theorem EZ(i:qw)(x:qu)(b:ql)(k:Nat)(hk:k<=i.stops.l.length)(hl:i.stops.l.length<2^60): ∀(d j:Nat),j+d=k-> ∃t:Bool,jg ((k:Int),(j:Int),i,x,b)=some (if t=true then .inr ()else .inl false)/\(t=true↔Sibs i.stops.l x j k):=by
 intro d;induction d with
 |zero=>
  intro j h;rw[jg.eq_1,if_neg (by simp;omega)];exact⟨true,rfl,fun _ q y h1 h2=>by omega,fun _=>rfl⟩
 |succ d ih=>
  intro j h;obtain⟨y,hy⟩:=gl (l:=i.stops.l) (k:=j) (by omega);obtain⟨t,g1,g2⟩:=ih (j+1) (by omega);rw[jg.eq_1,if_pos (by simp;omega),gi hy,ws (k:=j) (by omega)];simp only[xe,z7,g1];by_cases c1:y.up=x.up
  ·by_cases c2:x.span.qO<y.span.to
   ·rw[if_pos (by simpa using c1),if_pos (by simpa using c2)];refine⟨false,rfl,fun h=>(by cases h),fun h=>?_⟩;have:=h j y (xJ _) (by omega) hy c1;omega
   rw[if_pos (by simpa using c1),if_neg (by simpa using c2)];refine⟨t,rfl,g2.trans ⟨fun h q z h1 h2 hz hu=>?_,fun h q z h1 h2 hz hu=>h q z (by omega) h2 hz hu⟩⟩;by_cases c:q=j
   ·subst c;rw[hy]at hz;cases hz;omega
   exact h q z (by omega) h2 hz hu
  rw[if_neg (by simpa using c1)];refine⟨t,rfl,g2.trans ⟨fun h q z h1 h2 hz hu=>?_,fun h q z h1 h2 hz hu=>h q z (by omega) h2 hz hu⟩⟩;by_cases c:q=j
  ·subst c;rw[hy]at hz;cases hz;exact absurd hu c1
  exact h q z (by omega) h2 hz hu
structure Good (i:qw) (k:Nat) (x:qu):Prop where
 up: -1<=x.up/\x.up<k
 pre: ∀(q:Nat) y,q<k->x.up<q->i.stops.l[q]? =some y->x.up<=y.up
 le:x.span.qO<=x.span.to
 top:x.up= -1->xo x.span i.span
 nest: ∀(p:Nat) y,x.up=p->i.stops.l[p]? =some y->xo x.span y.span
 N4:Sibs i.stops.l x 0 k
theorem Gt(i:qw)(k:Nat)(x:qu)(hx:i.stops.l[k]? =some x)(hl:i.stops.l.length<2^60)(hp:PZ i.stops.l k): ∃t:Bool,xy ((k:Int),i)=(if t=true then xy (((k+1:Nat):Int),i)else some (.inl false))/\(t=true↔Good i k x):=by
 have hk:=(qG hx).1;have tail: ∀(b:ql),∃ t:Bool,(if decide (x.span.qO>x.span.to)=true then some (.inl false)else xl x.span b>>=fun v=>if(!v)=true then some (.inl false)else
   jg ((k:Int),(0:Int),i,x,b)>>=fun v=>match v with
    | .inl y=>some (.inl y)
    | .inr _=>xy (((k+1:Nat):Int),i))=(if t=true then xy (((k+1:Nat):Int),i)else some (.inl false))/\(t=true↔x.span.qO<=x.span.to/\xo x.span b/\Sibs i.stops.l x 0 k):=by
  intro b;by_cases c1:x.span.qO>x.span.to
  ·rw[if_pos (by simpa using c1)];exact⟨false,rfl,fun h=>(by cases h),fun h=>by omega⟩
  rw[if_neg (by simpa using c1),rB];simp only[xe,z7];by_cases c2:xo x.span b
  ·rw[if_neg (by simpa using c2)];obtain⟨t,g1,g2⟩:=EZ i x b k (by omega) hl k 0 (by omega);rw[show ((0:Nat):Int)=0 from rfl]at g1;rw[g1];refine⟨t, ?_,g2.trans ⟨fun h=>⟨by omega,c2,h⟩,fun h=>h.2.2⟩⟩;cases t<;>rfl
  rw[if_pos (by simpa using c2)];exact⟨false,rfl,fun h=>(by cases h),fun h=>absurd h.2.1 c2⟩
 rw[xy.eq_1,if_pos (by simp;omega),gi hx,ws (k:=k) (by omega),qI (n:=(k:Int)-1) (by omega) (by omega)];simp only[xe,z7]at tail |-;by_cases hu:x.up= -1
 ·rw[if_neg (by simp[hu]),if_neg (by simp[hu])];obtain⟨t,g1,g2⟩:=tail i.span;refine⟨t,g1,g2.trans ⟨fun h=>⟨by omega,fun q y _ _ hy=>?_,h.1,fun _=>h.2.1,fun p y hpp=>by omega,h.2.2⟩,fun h=>⟨h.le,h.top hu,h.N4⟩⟩⟩;have:=(hp q y (by omega) hy).1;omega
 rw[if_pos (by simpa using hu)];by_cases hr:0<=x.up/\x.up<k
 ·obtain⟨p,hpu⟩: ∃p:Nat,x.up=p:=⟨x.up.toNat,by omega⟩;obtain⟨y,hy⟩:=gl (l:=i.stops.l) (k:=p) (by omega);have hgy:qi i.stops.l x.up=some y:=by rw[hpu];exact gi hy
  rw[if_neg (by simp;omega)];obtain⟨t,g1,g2⟩:=tail y.span;have conv:(x.span.qO<=x.span.to/\xo x.span y.span/\Sibs i.stops.l x 0 k)/\(∀(q:Nat) y,q<k->x.up<q->i.stops.l[q]? =some y->x.up<=y.up)↔Good i k x:=by
   constructor
   ·rintro⟨⟨a1,a2,a3⟩,a4⟩;refine⟨by omega,a4,a1,fun h=>absurd h hu,fun p' y' hp' hy' =>?_,a3⟩;obtain rfl:p=p' :=by omega
    rw[hy]at hy';cases hy';exact a2
   intro h;exact⟨⟨h.le,h.nest p y hpu hy,h.N4⟩,h.pre⟩
  by_cases h7:x.up=(k:Int)-1
  ·rw[if_neg (by simp[h7]),if_pos (by simp;omega),hgy];simp only[z7];exact⟨t,g1,g2.trans ⟨fun h=>conv.1 ⟨h,fun q y _ _=>by omega⟩,fun h=>(conv.2 h).1⟩⟩
  rw[if_pos (by simpa using h7)];obtain⟨t2,q1,q2⟩:=in_ok i.stops (k-1) p (by omega) (fun r z Lz hz=>hp r z (by omega) hz);rw[show (k:Int)-1=((k-1:Nat):Int) by omega,hpu,q1];simp only[z7];cases t2 with
  |false=>
   rw[if_pos (by simp)];refine⟨false,rfl,fun h=>(by cases h),fun h=>?_⟩;have:=q2.2 ⟨by omega,fun q z h1 h2 hz=>by have:=h.pre q z (by omega) (by omega) hz;omega⟩;cases this
  |true=>
   have q3:=q2.1 rfl;rw[if_neg (by simp),if_pos (by simp),<- hpu,hgy];simp only[z7];exact⟨t,g1,g2.trans ⟨fun h=>conv.1 ⟨h,fun q z h1 h2 hz=>by have:=q3.2 q z (by omega) (by omega) hz;omega⟩,fun h=>(conv.2 h).1⟩⟩
 rw[if_pos (by simp only[Bool.or_eq_true,decide_eq_true_eq];omega)];exact⟨false,rfl,fun h=>(by cases h),fun h=>by have:=h.up;omega⟩
theorem EY(i:qw)(hl:i.stops.l.length<2^60): ∀(d k:Nat),k+d=i.stops.l.length->PZ i.stops.l k-> ∃t:Bool,xy ((k:Int),i)=some (if t=true then .inr ()else .inl false)/\(t=true↔ ∀(r:Nat) x,k<=r->i.stops.l[r]? =some x->Good i r x):=by
 intro d;induction d with
 |zero=>
  intro k h _;rw[xy.eq_1,if_neg (by simp;omega)];exact⟨true,rfl,fun _ r x hr hx=>by have:=(qG hx).1;omega,fun _=>rfl⟩
 |succ d ih=>
  intro k h hp;obtain⟨x,hx⟩:=gl (l:=i.stops.l) (k:=k) (by omega);obtain⟨t,g1,g2⟩:=Gt i k x hx hl hp;rw[g1];cases t with
  |false=>
   rw[if_neg (by simp)];refine⟨false,rfl,fun h=>(by cases h),fun h=>?_⟩;have:=g2.2 (h k x (xJ _) hx);cases this
  |true=>
   rw[if_pos (by simp)];have hg:=g2.1 rfl;obtain⟨t2,q1,q2⟩:=ih (k+1) (by omega) (fun r z hr hz=>by
    by_cases c:r=k
    ·subst c
     rw[hx]at hz
     cases hz
     exact⟨hg.up.1,hg.up.2,hg.pre⟩
    exact hp r z (by omega) hz)
   refine⟨t2,q1,q2.trans ⟨fun h r z hr hz=>?_,fun h r z hr hz=>h r z (by omega) hz⟩⟩;by_cases c:r=k
   ·subst c;rw[hx]at hz;cases hz;exact hg
   exact h r z (by omega) hz
theorem I0(i:qw)(n:Int)(hl:i.stops.l.length<2^60): ∃t:Bool,aA i n=some t/\(t=true↔VU i n):=by
 obtain⟨b,g1,g2⟩:=TG i.span n;obtain⟨t,q1,q2⟩:=EY i hl i.stops.l.length 0 (by omega) (fun r x hr=>by omega);rw[show ((0:Nat):Int)=0 from rfl]at q1;unfold aA;rw[g1];simp only[xe,z7];cases b with
 |false=>
  refine⟨false,rfl,fun h=>(by cases h),fun h=>?_⟩;have:=g2.2 h.QP;cases this
 |true=>
  rw[if_neg (by simp),q1];refine⟨t,by cases t<;>rfl,q2.trans ⟨fun h=>?_,fun h r x _ hx=>?_⟩⟩
  ·exact⟨g2.1 rfl,fun k x hx=>(h k x (by omega) hx).up,fun k x hx=>(h k x (by omega) hx).le,fun k x hx hu=>by have:=(h k x (by omega) hx).top hu;unfold xo at this;exact this,fun k x hx p y hp hy=>by have:=(h k x (by omega) hx).nest p y hp hy;unfold xo at this;exact this,
    fun k x hx j y hj hy hu=>(h k x (by omega) hx).N4 j y (by omega) hj hy hu,fun k x hx q y hq hu hy=>(h k x (by omega) hx).pre q y hq hu hy⟩
  exact⟨h.up r x hx,fun q y hq hu hy=>h.pre r x hx q y hq hu hy,h.le r x hx,fun hu=>h.top r x hx hu,fun p y hp hy=>h.nest r x hx p y hp hy,fun j y _ hj hy hu=>h.N4 r x hx j y hj hy hu⟩
end Xr
namespace Xr
def PX(ss:List qc):Prop:= ∀(j:Nat) s,ss[j]? =some s->s.insts.l≠[]/\(0<j-> ∀p,ss[j-1]? =some p-> ∀x∈s.insts.l,lD x.span (vU p.cur p.insts.l))
structure MayP (st:qr):Prop where
 text:st.text.length<=65536
 sB:st.qj.l.length<=8
 ne:st.xF.l≠[]
 Wi:st.xF.l.length<=64
 XK:JQ st.text.length st.xF.l
 T8:PU st.xF.l
 may: ∀s∈st.qj.l,cx s.insts.l st.text.length
 lies:PX st.qj.l
theorem I1(l:Sl qx)(st:qr)(hl:l.l.length=st.xF.l.length)(h60:l.l.length<2^60): ∀(d i:Nat),i+d=l.l.length-> ∃t:Bool,gS (l,(i:Int),st)=some (if t=true then .inr ()else .inl false)/\(t=true↔l.l.drop i=st.xF.l.drop i):=by
 intro d;induction d with
 |zero=>
  intro i h;rw[gS.eq_1,if_neg (by simp;omega)];refine⟨true,rfl,fun _=>?_,fun _=>rfl⟩;rw[List.drop_of_length_le (by omega),List.drop_of_length_le (by omega)]
 |succ d ih=>
  intro i h;obtain⟨x,hx⟩:=gl (l:=l.l) (k:=i) (by omega);obtain⟨y,hy⟩:=gl (l:=st.xF.l) (k:=i) (by omega);obtain⟨t,g1,g2⟩:=ih (i+1) (by omega);have ex:l.l.drop i=x::l.l.drop (i+1):=by
   have hk:=(qG hx).1;rw[List.drop_eq_getElem_cons hk];rw[kU hk]at hx;cases hx;rfl
  have ey:st.xF.l.drop i=y::st.xF.l.drop (i+1):=by
   have hk:=(qG hy).1;rw[List.drop_eq_getElem_cons hk];rw[kU hk]at hy;cases hy;rfl
  rw[gS.eq_1,if_pos (by simp;omega),gi hx,ws (k:=i) (by omega),ex,ey];simp only[xe,z7];rw[gi hy];simp only[z7,g1];cases x with
  |mk xa xh=>
  cases y with
  |mk ya yh=>
  by_cases c:xa=ya/\xh=yh
  ·obtain⟨rfl,rfl⟩:=c;rw[if_neg (by simp)];exact⟨t,rfl,g2.trans ⟨fun h=>by rw[h],fun h=>by simpa using h⟩⟩
  rw[if_pos (by simp;omega)];refine⟨false,rfl,fun h=>(by cases h),fun h=>?_⟩;simp only[List.cons.injEq,qx.mk.injEq]at h;exact absurd h.1 c
def H6(st:qr)(i:Nat)(is:List qw)(k:Nat)(x:qw):Prop:=
 VU x st.text.length/\(0<k-> ∀y,is[k-1]? =some y->y.span.to<=x.span.qO)/\(0<i-> ∀p,st.qj.l[i-1]? =some p->lD x.span (vU p.cur p.insts.l))
theorem I3(st:qr)(Ep: ∀s∈st.qj.l,jX s)(h60:st.qj.l.length<2^60)(i:Nat)(hi:i<st.qj.l.length)(is:Sl qw)(his:is.l.length<=2^12)(XH: ∀x∈is.l,x.stops.l.length<=2^12):
  ∀(d k:Nat),k+d=is.l.length-> ∃t:Bool,k9 ((i:Int),is,(k:Int),st)=some (if t=true then .inr ()else .inl false)/\(t=true↔ ∀(r:Nat) x,k<=r->is.l[r]? =some x->H6 st i is.l r x):=by
 intro d;induction d with
 |zero=>
  intro k h;rw[k9.eq_1,if_neg (by simp;omega)];exact⟨true,rfl,fun _ r x hr hx=>by have:=(qG hx).1;omega,fun _=>rfl⟩
 |succ d ih=>
  intro k h;obtain⟨x,hx⟩:=gl (l:=is.l) (k:=k) (by omega);obtain⟨t,g1,g2⟩:=ih (k+1) (by omega);have hxs:=XH x (qX hx);obtain⟨b,m1,m2⟩:=I0 x (st.text.length:Int) (by omega);have split: ∀(P:Prop),(P↔H6 st i is.l k x)->((P/\ ∀(r:Nat) z,k+1<=r->is.l[r]? =some z->H6 st i is.l r z)↔ ∀(r:Nat) z,k<=r->is.l[r]? =some z->H6 st i is.l r z):=by
   intro P hP;rw[hP];constructor
   ·intro h r z hr hz;by_cases c:r=k
    ·subst c;rw[hx]at hz;cases hz;exact h.1
    exact h.2 r z (by omega) hz
   exact fun h=>⟨h k x (xJ _) hx,fun r z hr hz=>h r z (by omega) hz⟩
  have tail: ∃q:Bool,(if (decide ((i:Int)>(0:Int)))=true then
     qi st.qj.l (IntKind.i64.wrap ((i:Int)-(1:Int)))>>=fun Uy=>
     km Uy.cur Uy.insts>>=fun vK=>
     uJ x.span vK>>=fun eL=>
     if(!eL)=true then some (.inl false)else k9 ((i:Int),is,((k+1:Nat):Int),st)
    else k9 ((i:Int),is,((k+1:Nat):Int),st))=some (if q=true then .inr ()else .inl false)/\
    (q=true↔(0<i-> ∀p,st.qj.l[i-1]? =some p->lD x.span (vU p.cur p.insts.l))/\t=true):=by
   by_cases c:0<i
   ·obtain⟨p,hp⟩:=gl (l:=st.qj.l) (k:=i-1) (by omega);have C3:=Ep p (qX hp);have hsl:=Kr C3 p.cur;obtain⟨u,l1,l2⟩:=lies_ok x.span ⟨(vU p.cur p.insts.l).isEmpty,vU p.cur p.insts.l⟩ (by simp only;omega);rw[if_pos (by simpa using c),show IntKind.i64.wrap ((i:Int)-1)=((i-1:Nat):Int)from by rw[qI (by omega) (by omega)];omega,gi hp];simp only[xe,z7];rw[QJ p.cur p.insts C3.2 C3.1];simp only[z7,l1];cases u with
    |false=>
     rw[if_pos (by simp)];refine⟨false,rfl,fun h=>(by cases h),fun h=>?_⟩;have:=l2.2 (h.1 c p hp);cases this
    |true=>
     rw[if_neg (by simp),g1];refine⟨t,rfl,fun h=>⟨fun _ p' hp' =>?_,h⟩,fun h=>h.2⟩;rw[hp]at hp';cases hp';exact l2.1 rfl
   rw[if_neg (by simpa using c),g1];exact⟨t,rfl,fun h=>⟨fun h0=>absurd h0 c,h⟩,fun h=>h.2⟩
  obtain⟨q,q1,q2⟩:=tail;rw[k9.eq_1,if_pos (by simp;omega),gi hx,ws (k:=k) (by omega)];simp only[xe,z7,m1]at q1 |-;cases b with
  |false=>
   rw[if_pos (by simp)];refine⟨false,rfl,fun h=>(by cases h),fun h=>?_⟩;have:=m2.2 (h k x (xJ _) hx).1;cases this
  |true=>
   have hm:=m2.1 rfl;rw[if_neg (by simp)];by_cases c:0<k
   ·obtain⟨y,hy⟩:=gl (l:=is.l) (k:=k-1) (by omega);rw[if_pos (by simpa using c),show IntKind.i64.wrap ((k:Int)-1)=((k-1:Nat):Int)from by rw[qI (by omega) (by omega)];omega,gi hy];simp only[z7];by_cases c2:x.span.qO<y.span.to
    ·rw[if_pos (by simpa using c2)];refine⟨false,rfl,fun h=>(by cases h),fun h=>?_⟩;have:=(h k x (xJ _) hx).2.1 c y hy;omega
    rw[if_neg (by simpa using c2),q1];refine⟨q,rfl,q2.trans ?_⟩;rw[g2];refine split _ ⟨fun h=>⟨hm,fun _ z hz=>?_,h⟩,fun h=>h.2.2⟩;rw[hy]at hz;cases hz;omega
   rw[if_neg (by simpa using c),q1];refine⟨q,rfl,q2.trans ?_⟩;rw[g2];exact split _ ⟨fun h=>⟨hm,fun h0=>absurd h0 c,h⟩,fun h=>h.2.2⟩
theorem rise_of{is:List qw}{n:Int}(h: ∀(k:Nat) x,is[k]? =some x->VU x n/\(0<k-> ∀y,is[k-1]? =some y->y.span.to<=x.span.qO)):cx is n:=by
 have hc:=Jl (is.map (·.span)) fun j p hp=>by
  rw[List.getElem?_map,yi]at hp;obtain⟨x,hx,rfl⟩:=hp;refine⟨(h j x hx).1.QP.2.1,fun y h0 hy=>?_⟩;rw[List.getElem?_map,yi]at hy;obtain⟨z,hz,rfl⟩:=hy;exact(h j x hx).2 h0 z hz
 rw[List.pairwise_map]at hc;refine⟨fun a i hi=>(h a i hi).1,fun a b i j eN hi hj=>?_⟩;have ha:=(qG hi).1;have hb:=(qG hj).1;have:=List.pairwise_iff_getElem.1 hc a b ha hb eN;rw[kU ha]at hi;rw[kU hb]at hj;cases hi;cases hj;exact this
def GoodS(st:qr)(i:Nat)(s:qc):Prop:=s.insts.l≠[]/\ ∀(r:Nat) x,s.insts.l[r]? =some x->H6 st i s.insts.l r x
theorem I2(st:qr)(Ep: ∀s∈st.qj.l,jX s)(h60:st.qj.l.length<2^60): ∀(d i:Nat),i+d=st.qj.l.length-> ∃t:Bool,gT ((i:Int),st)=some (if t=true then .inr ()else .inl false)/\(t=true↔ ∀(r:Nat) s,i<=r->st.qj.l[r]? =some s->GoodS st r s):=by
 intro d;induction d with
 |zero=>
  intro i h;rw[gT.eq_1,if_neg (by simp;omega)];exact⟨true,rfl,fun _ r s hr hs=>by have:=(qG hs).1;omega,fun _=>rfl⟩
 |succ d ih=>
  intro i h;obtain⟨s,hs⟩:=gl (l:=st.qj.l) (k:=i) (by omega);obtain⟨t,g1,g2⟩:=ih (i+1) (by omega);have Qk:=Ep s (qX hs);rw[gT.eq_1,if_pos (by simp;omega),gi hs,ws (k:=i) (by omega)];simp only[xe,z7];by_cases c:s.insts.l=[]
  ·rw[if_pos (by simp[c])];refine⟨false,rfl,fun h=>(by cases h),fun h=>?_⟩;exact absurd c (h i s (xJ _) hs).1
  obtain⟨u,u1,u2⟩:=I3 st Ep h60 i (by omega) s.insts Qk.1 Qk.2 s.insts.l.length 0 (by omega);rw[show ((0:Nat):Int)=0 from rfl]at u1;rw[if_neg (by simpa using c),u1];simp only[z7];cases u with
  |false=>
   refine⟨false,rfl,fun h=>(by cases h),fun h=>?_⟩;have:=u2.2 fun r x _ hx=>(h i s (xJ _) hs).2 r x hx;cases this
  |true=>
   refine⟨t,g1,g2.trans ⟨fun h r z hr hz=>?_,fun h r z hr hz=>h r z (by omega) hz⟩⟩;by_cases c2:r=i
   ·subst c2;rw[hs]at hz;cases hz;exact⟨c,fun r x hx=>u2.1 rfl r x (by omega) hx⟩
   exact h r z (by omega) hz
theorem Gu(st:qr)(Ep: ∀s∈st.qj.l,jX s)(hq:st.xF.l.length<2^60): ∃t:Bool,hC st=some t/\(t=true↔MayP st):=by
 unfold hC;by_cases c:st.text.length<=65536/\st.qj.l.length<=8
 ·rw[if_neg (by simp;omega)];obtain⟨q,co,n1,n2⟩:=TN (st.text.length:Int) st.xF hq;rw[n1];simp only[xe,z7];rcases n2 with ⟨rfl,n3,n4,n5,rfl⟩|⟨n3,rfl,n4⟩
  ·have JJ:=lE _ _ n5;by_cases c2:(bV st.xF.l).length=st.xF.l.length
   ·rw[if_neg (by simp;omega)];obtain⟨t,g1,g2⟩:=I1 ⟨(bV st.xF.l).isEmpty,bV st.xF.l⟩ st c2 (by simp only;omega) _ 0 (Nat.zero_add _);rw[show ((0:Nat):Int)=0 from rfl]at g1;rw[g1];cases t with
    |false=>
     refine⟨false,rfl,fun h=>(by cases h),fun h=>?_⟩;have:=g2.2 (by simp only[List.drop_zero];exact Vd _ h.T8);cases this
    |true=>
     have hid:=g2.1 rfl;simp only[List.drop_zero]at hid;obtain⟨u,u1,u2⟩:=I2 st Ep (by omega) _ 0 (Nat.zero_add _);rw[show ((0:Nat):Int)=0 from rfl]at u1;simp only[if_true,z7,u1];refine⟨u,by cases u<;>rfl,u2.trans ⟨fun h=>⟨c.1,c.2,n3,n4,n5,hid ▸ JJ.1,fun s hs=>?_,fun j s hs=>?_⟩,fun h r s _ hs=>?_⟩⟩
     ·obtain⟨j,hj⟩:=jz hs;exact rise_of fun k x hx=>⟨((h j s (by omega) hj).2 k x hx).1,((h j s (by omega) hj).2 k x hx).2.1⟩
     ·refine⟨(h j s (by omega) hs).1,fun h0 p hp x hx=>?_⟩;obtain⟨k,hk⟩:=jz hx;exact((h j s (by omega) hs).2 k x hk).2.2 h0 p hp
     have hm:=h.may s (qX hs);have hl:=h.lies r s hs;exact⟨hl.1,fun k x hx=>⟨hm.may k x hx,fun h0 y hy=>hm.D7 (k-1) k y x (by omega) hy hx,fun h0 p hp=>hl.2 h0 p hp x (qX hx)⟩⟩
   rw[if_pos (by simp only[Bool.or_eq_true,bne_iff_ne,ne_eq];omega)];refine⟨false,rfl,fun h=>(by cases h),fun h=>?_⟩;exact absurd (congrArg List.length (Vd _ h.T8)) c2
  rw[if_pos (by simp[n3])];exact⟨false,rfl,fun h=>(by cases h),fun h=>absurd ⟨h.ne,h.Wi,h.XK⟩ n4⟩
 rw[if_pos (by simp;omega)];exact⟨false,rfl,fun h=>(by cases h),fun h=>absurd ⟨h.text,h.sB⟩ c⟩
end Xr
namespace Xr
def zfl(i:qw):Sl Int:=⟨false,List.replicate i.stops.l.length (0:Int)⟩
theorem HV(s:qc)(hs:jX s): ∀(r:List qw)(a:Nat)(out:List (Sl Int)),s.insts.l.drop a=r->out.length=a->kM ((a:Int),s,⟨out.isEmpty,out⟩)=some ⟨(out++r.map zfl).isEmpty,out++r.map zfl⟩:=by
 intro r;have nh:=hs.1;induction r with
 |nil=>
  intro a out h _;have:=zc h;rw[kM.eq_1,if_neg (by simp;omega)];simp
 |cons i r ih=>
  intro a out h ho;obtain⟨h1,h2,h3⟩:=zp h;have hi:=hs.2 i (qX h1);rw[kM.eq_1,if_pos (by simp;omega),gi h1,ws (k:=a) (by omega)];simp only[xe,z7];rw[if_pos (by omega),if_pos qC,if_pos qC];have:=ih (a+1) (out++[zfl i]) h2 (by simp;omega);rw[show (out++[zfl i]).isEmpty=false from by simp]at this;simp only[zfl,Int.toNat_natCast]at this |-;rw[this];simp[zfl]
theorem ZI(s:qc)(hs:jX s): ∃f,hK s=some f/\fq s.insts.l f:=by
 refine⟨⟨(s.insts.l.map zfl).isEmpty,s.insts.l.map zfl⟩, ?_,by simp,by simp,fun a i f hi hf=>?_⟩
 ·unfold hK;have:=HV s hs s.insts.l 0 [] rfl rfl;exact tW
 simp only[List.getElem?_map,hi,Option.map_some,kX]at hf;subst hf;refine⟨by simp[zfl],fun _=>rfl,fun v hv=>?_⟩;have:=(List.mem_replicate.1 hv).2;omega
theorem Am(st:qr)(hs: ∀s∈st.qj.l,jX s)(DJ:st.qj.l.length<=16)(q:List qx)(ss:List qc)(w:qa): ∀(r:List qc)(i:Nat)(out:List (Sl (Sl Int))),st.qj.l.drop i=r->out.length=i->
  ∃fs:List (Sl (Sl Int)),yL ((i:Int),st,q,ss,w,⟨out.isEmpty,out⟩)=some ⟨(out++fs).isEmpty,out++fs⟩/\fs.length=r.length/\ ∀(j:Nat) s f,r[j]? =some s->fs[j]? =some f->fq s.insts.l f:=by
 intro r;induction r with
 |nil=>
  intro i out h _;have:=zc h;rw[yL.eq_1,if_neg (by simp;omega)];exact⟨[],by simp,rfl,fun j s f hs=>by simp at hs⟩
 |cons s r ih=>
  intro i out h ho;obtain⟨h1,h2,h3⟩:=zp h;obtain⟨f,f1,f2⟩:=ZI s (hs s (qX h1));rw[yL.eq_1,if_pos (by simp;omega),gi h1,ws (k:=i) (by omega)];simp only[xe,z7,f1];rw[if_pos qC];obtain⟨fs,g1,g2,g3⟩:=ih (i+1) (out++[f]) h2 (by simp;omega);rw[show (out++[f]).isEmpty=false from by simp]at g1;refine⟨f::fs, ?_,by simp[g2],fun j s' f' eO Yu=>?_⟩
  ·rw[show (⟨f.nil,f.l⟩:Sl (Sl Int))=f from rfl,g1];simp
  cases j with
  |zero=>
   simp only[List.getElem?_cons_zero,kX]at eO Yu;subst eO Yu;exact f2
  |succ j=>exact g3 j s' f' (by simpa using eO) (by simpa using Yu)
structure wR (st:qr):Prop where
 may:MayP st
 small: ∀s∈st.qj.l,jX s
 stop: ∀s∈st.qj.l,∀ i∈s.insts.l,∀ x∈i.stops.l,mf x
 Jo: ∀s∈st.qj.l,vU s.cur s.insts.l≠[]
theorem Hz(st:qr)(h:wR st): ∃fl,px st=some (st.text,⟨false,st.xF.l⟩,st.qj.l,fl)/\WK (st.text,⟨false,st.xF.l⟩,st.qj.l,fl):=by
 have h8:=h.may.sB;have h64:=h.may.Wi;have ht:=h.may.text;obtain⟨fs,g1,g2,g3⟩:=Am st h.small (by omega) st.xF.l st.qj.l st.text st.qj.l 0 [] rfl rfl;rw[show ((0:Nat):Int)=0 from rfl]at g1;simp only[List.isEmpty_nil,List.nil_append]at g1;refine⟨⟨fs.isEmpty,fs⟩, ?_,⟨⟨by simp only;omega,h.may.ne,h64,h.may.T8,h.may.XK,by simp only;omega,h.small,h.may.may,g2,fun c=>?_,g3,h.stop⟩,ht⟩⟩
 ·unfold px;rw[if_pos qC,if_pos qC,g1];rfl
 exact tW
theorem sum_fit{n:Nat}{es:List qo}(hn:n<=65536)(hl:es.length<=2^19)(h:Xy n es)(h2:(n:Int)+tw es<=65536):wu es<=2^36:=by
 have h3:=sumT_sp (by omega) es h.XK;have h4:es.length*n<=2^19*65536:=Nat.mul_le_mul hl hn;exact tW
def Less(st st' :qr):Prop:=Curs st.qj.l st'.qj.l
theorem HQ(st:qr)(h:wR st)(es:Sl qo)(hl:es.l.length<=2^19)(hT:wu es.l<=2^60):qB (t8 st es) (fun v=>v.2≠0\/v.2=0/\wR v.1/\Less st v.1):=by
 have ht:=h.may.text;have h8:=h.may.sB;obtain⟨t,m1,m2⟩:=Gu st h.small (by have:=h.may.Wi;omega);obtain rfl:=m2.2 h.may;unfold t8;refine .go m1 ?_;rw[if_neg (by simp)];refine .bind (TH (st.text.length:Int) (by omega) es hl hT) fun c hc=>?_;refine .ite (fun c0=> .ret (.inl (by simpa using c0))) fun c0=>?_;obtain⟨e1,e2⟩:=hc (by simpa using c0);have hT2:wu es.l<=2^36:=sum_fit ht hl e1 e2;obtain⟨fl,b1,b2⟩:=Hz st h;refine .go b1 ?_;refine .bind (rU (st.text,⟨false,st.xF.l⟩,st.qj.l,fl) b2.ok ht es e1 hT2 hl) fun w hw=>?_;have hwt:=hw.text;refine .bind (K2 w ⟨hw.ok,by simp only at hwt;omega⟩) fun u hu=>?_;refine .ite (fun c1=> .ret (.inl (by simpa using c1))) fun c1=>?_;rcases hu with hu|⟨_,hu,hlk⟩
 ·exact absurd (by simpa using c1) hu
 have ZH: ∀y,Fin u.2.1.length u.2.2.2.1 y->wR ⟨u.2.1,u.2.2.1,⟨false,y⟩⟩/\Less st ⟨u.2.1,u.2.2.1,⟨false,y⟩⟩:=by
  intro y hy;have SW:=hlk.len;have hwl:=hw.len;have lY:=hy.Jo.1;simp only at SW hwl lY;refine⟨⟨⟨hu.text,by simp only;omega,hu.ok.ne,hu.ok.Wi,hu.ok.XK,hu.ok.T8,hy.ok.may,fun j s hs=>?_⟩,hy.ok.small,hy.ok.stop,fun s hs=>?_⟩,⟨by simp only;omega,fun j s' eO=>?_⟩⟩
  ·have:=hy.closed j s (qG hs).1 hs;exact⟨this.1,this.2.2⟩
  ·obtain⟨j,hj⟩:=jz hs;exact(hy.closed j s (qG hj).1 hj).2.1
  obtain⟨s2,k1,k2⟩:=hy.Jo.2 j s' eO;obtain⟨s1,k3⟩:=gl (l:=w.2.2.1) (k:=j) (by have h9:j<u.2.2.2.1.length:=(qG k1).1;omega);obtain⟨s3,k4,k5⟩:=hlk.cur j s1 k3;have k1' :u.2.2.2.1[j]? =some s2:=k1;have k4' :u.2.2.2.1[j]? =some s3:=k4;rw[k1']at k4';cases k4';obtain⟨s0,k6,k7⟩:=hw.cur j s1 k3;exact⟨s0,k6,k2.trans (k5.trans k7)⟩
 refine .bind (WH u.2 hu.ok) fun v hv=>?_;rcases v with y|y
 ·exact .ret (.inr ⟨rfl,ZH y hv⟩)
 exact .ret (.inr ⟨rfl,ZH y hv⟩)
end Xr
namespace Xr
theorem wi{n:Int}(h: -9223372036854775808<=n:=by omega)(h2:n<=9223372036854775807:=by omega):IntKind.i64.wrap n=n:=qI h h2
def isB(b:UInt8):Bool:=(b.toNat:Int)==10
def Xz(s:qa):Nat:=s.countP isB
theorem Nx(s:qa):Xz s<=s.length:=List.countP_le_length
theorem Ao(b:UInt8)(s:qa):(Xz (b::s):Int)=Xz s+if isB b=true then 1 else 0:=by
 unfold Xz;rw[List.countP_cons];split<;>simp
structure T0 (i:Nat) (t:qU):Prop where
 a:0<=t.bytes/\t.bytes<=i
 b:0<=t.breaks/\t.breaks<=i
 c:0<=t.dB/\t.dB<=i
 d:0<=t.sQ/\t.sQ<=2*i
theorem of_L0(s:qa)(hs:s.length<=2^40)(t2:qU): ∀(r:qa)(i:Nat)(t:qU),s.drop i=r->i+r.length=s.length->T0 i t->
  qB (kN (s,(i:Int),t2,t)) (fun v=>v.breaks=t.breaks+Xz r/\T0 s.length v):=by
 intro r;induction r with
 |nil=>
  intro i t h hi ht;have:=zc h;rw[kN.eq_1,if_neg (by simp;omega)];simp only[List.length_nil,Nat.add_zero]at hi;exact .ret ⟨by simp[Xz],hi ▸ ht⟩
 |cons b r ih=>
  intro i t h hi ht;simp only[List.length_cons]at hi;obtain⟨h1,h2,h3⟩:=zp h;have⟨p1,p2⟩:=ht.a;have⟨p3,p4⟩:=ht.b;have⟨p5,p6⟩:=ht.c;have⟨p7,p8⟩:=ht.d;rw[kN.eq_1,if_pos (by simp;omega),ws (by omega)];refine .go (gi h1) ?_;rw[wi (n:=t.bytes+1),wi (n:=t.breaks+1),wi (n:=t.dB+1),wi (n:=t.sQ+1),wi (n:=t.sQ+1+1)];have hb:=Ao b r;refine .ite (fun c=>?_) fun c=>?_
  ·rw[if_pos (show isB b=true from c)]at hb;refine .bind (Go.Proofs.YtmllebdamdnhoaaGreat.rU b) fun v _=>?_;refine .ite (fun _=>qB.ite (fun _=>?_) fun _=>?_) fun _=>qB.ite (fun _=>?_) fun _=>?_;all_goals exact .mono (ih (i+1) _ h2 (by omega) ⟨by simp only;omega,by simp only;omega,by simp only;omega,by simp only;omega⟩) fun v hv=>⟨by have:=hv.1;simp only at this;omega,hv.2⟩
  rw[if_neg (show ¬isB b=true by unfold isB;simp[c])]at hb;refine .bind (Go.Proofs.YtmllebdamdnhoaaGreat.rU b) fun v _=>?_;refine .ite (fun _=>qB.ite (fun _=>?_) fun _=>?_) fun _=>qB.ite (fun _=>?_) fun _=>?_;all_goals exact .mono (ih (i+1) _ h2 (by omega) ⟨by simp only;omega,by simp only;omega,by simp only;omega,by simp only;omega⟩) fun v hv=>⟨by have:=hv.1;simp only at this;omega,hv.2⟩
theorem Zm(s:qa)(hs:s.length<=2^40):qB (eC s) (fun v=>v.breaks=Xz s/\T0 s.length v):=by
 unfold eC;refine .bind (of_L0 s hs _ s 0 ⟨0,0,0,0⟩ rfl (by simp) ⟨by simp,by simp,by simp,by simp⟩) fun v hv=>?_;exact .ret ⟨by have:=hv.1;simp only at this;omega,hv.2⟩
theorem Ap(t:qU)(n:Nat)(h:T0 n t):qB (uT t 1) (fun v=>0<=v/\v<=n):=by
 unfold uT;rw[if_neg (by decide),if_pos (by decide)];exact .ret h.c
theorem Nu(s:qa)(hs:s.length<=2^40)(off:Int):qB (sU s off) (fun v=>(v.2=0/\0<=off/\off<=s.length/\v.1=Xz (s.take off.toNat))\/(v.2≠0/\v.1=0/\ ¬(0<=off/\off<=s.length))):=by
 unfold sU;refine .ite (fun c=> .ret (.inr ⟨by decide,rfl, ?_⟩)) fun c=>?_
 ·simp only[Bool.or_eq_true,decide_eq_true_eq]at c;omega
 simp only[Bool.or_eq_true,decide_eq_true_eq,not_or]at c;refine .bind .kx fun r hr=>?_;obtain⟨rfl,h2⟩:=hr;refine .bind (Zm _ (by rw[List.length_take];omega)) fun v hv=>?_;exact .ret (.inl ⟨rfl,by omega,by omega,hv.1⟩)
def X6:qa->Nat->List Int
 |[],_=>[]
 |b::r,i=>if isB b=true then((i+1:Nat):Int)::X6 r (i+1)else X6 r (i+1)
theorem Dk(s:qa)(hs:s.length<=2^28): ∀(r:qa)(i:Nat)(l:List Int),s.drop i=r->l.length<=i+1->wP (s,(i:Int),l)=some (l++X6 r i):=by
 intro r;induction r with
 |nil=>
  intro i l h _;have:=zc h;rw[wP.eq_1,if_neg (by simp;omega)];simp[X6]
 |cons b r ih=>
  intro i l h hl;obtain⟨h1,h2,h3⟩:=zp h;rw[wP.eq_1,if_pos (by simp;omega),gi h1,ws (by omega)];simp only[xe,z7];by_cases c:isB b=true
  ·rw[if_pos (show ((b.toNat:Int)==10)=true from c),if_pos qC,ih (i+1) _ h2 (by simp;omega)];simp[X6,c]
  rw[if_neg (show ¬((b.toNat:Int)==10)=true from c),ih (i+1) _ h2 (by omega)];simp[X6,c]
theorem VR(s:qa)(hs:s.length<=2^28):nD s=some ⟨false,0::X6 s 0⟩:=by
 unfold nD;rw[show (0:Int)=((0:Nat):Int)from rfl,Dk s hs s 0 _ rfl (by simp)];simp
theorem st4_len: ∀(r:qa)(i:Nat),(X6 r i).length=Xz r:=by
 intro r;induction r with
 |nil=>intro i;rfl
 |cons b r ih=>
  intro i;simp only[X6,Xz,List.countP_cons];split
  ·simp only[List.length_cons,ih];rfl
  simp only[ih];rfl
theorem Px: ∀(r:qa)(i:Nat),∀ x∈X6 r i,(i:Int)<x/\x<=i+r.length:=by
 intro r;induction r with
 |nil=>intro i x h;simp[X6]at h
 |cons b r ih=>
  intro i x h;simp only[X6]at h;simp only[List.length_cons];split at h
  ·rcases List.mem_cons.1 h with rfl|h
   ·omega
   have:=ih (i+1) x h;omega
  have:=ih (i+1) x h;omega
theorem OV: ∀(r:qa)(i:Nat),(X6 r i).Pairwise (· < ·):=by
 intro r;induction r with
 |nil=>intro i;simp[X6]
 |cons b r ih=>
  intro i;simp only[X6];split
  ·refine List.pairwise_cons.2 ⟨fun x hx=>?_,ih (i+1)⟩;have:=Px r (i+1) x hx;omega
  exact ih (i+1)
theorem st4_at: ∀(r:qa)(i n k:Nat)(x:Int),k<Xz (r.take n)->(X6 r i)[k]? =some x->x<=i+n:=by
 intro r;induction r with
 |nil=>intro i n k x h;simp[Xz]at h
 |cons b r ih=>
  intro i n k x h hx;cases n with
  |zero=>simp[Xz]at h
  |succ n=>
   simp only[X6]at hx;simp only[List.take_succ_cons,Xz,List.countP_cons]at h;split at hx
   ·rename_i c;rw[if_pos c]at h;cases k with
    |zero=>
     simp only[List.getElem?_cons_zero,kX]at hx;omega
    |succ k=>
     have:=ih (i+1) n k x (by unfold Xz;omega) (by simpa using hx);omega
   rename_i c;rw[if_neg c]at h;have:=ih (i+1) n k x (by unfold Xz;omega) hx;omega
theorem Ml(s:qa):(0::X6 s 0).Pairwise (fun a b:Int=>a<b):=List.pairwise_cons.2 ⟨fun x hx=>by have:=Px s 0 x hx;omega,OV s 0⟩
theorem Gq(s:qa): ∀x∈(0::X6 s 0:List Int),0<=x/\x<=s.length:=by
 intro x hx;rcases List.mem_cons.1 hx with rfl|hx
 ·omega
 have:=Px s 0 x hx;omega
theorem og(s:qa)(hs:s.length<=2^28)(line:Int): ∃a b c:Int,yQ s line=some (a,c)/\th s line=some (b,c)/\0<=a/\a<=b/\b<=s.length/\
  (0<=line->line<=Xz s->c=0)/\(∀ n:Nat,line=Xz (s.take n)->a<=n):=by
 have hbl:=Nx s;have hL:((0::X6 s 0:List Int).length:Int)=Xz s+1:=by simp[st4_len]
 unfold yQ th;rw[VR s hs];simp only[xe,z7];by_cases c:0<=line/\line<Xz s+1
 ·obtain⟨k,rfl⟩: ∃k:Nat,line=k:=⟨line.toNat,by omega⟩;obtain⟨x,hx⟩:=gl (l:=(0::X6 s 0:List Int)) (k:=k) (by omega);have hxi:=Gq s x (qX hx);have AX: ∀n:Nat,(k:Int)=Xz (s.take n)->x<=n:=by
   intro n hn;cases k with
   |zero=>
    simp only[List.getElem?_cons_zero,kX]at hx;omega
   |succ k=>
    have:=st4_at s 0 n k x (by omega) (by simpa using hx);omega
  have e1:(decide ((k:Int)<0) || decide ((k:Int)>=((0::X6 s 0:List Int).length:Int)))=false:=by
   simp only[Bool.or_eq_false_iff,decide_eq_false_iff_not];omega
  rw[e1];simp only[w9,if_false];rw[gi hx,ws (by omega)];simp only[z7];by_cases c2:k+1<(0::X6 s 0:List Int).length
  ·obtain⟨y,hy⟩:=gl (l:=(0::X6 s 0:List Int)) (k:=k+1) c2;have hyi:=Gq s y (qX hy);have xB:x<y:=by
    obtain⟨h1,h1'⟩:=qG hx;obtain⟨h2,h2'⟩:=qG hy;have:=List.pairwise_iff_getElem.1 (Ml s) k (k+1) h1 h2 (by omega);rw[h1',h2']at this;exact this
   rw[if_pos (by simp only[decide_eq_true_eq];omega),gi hy];simp only[z7];rw[wi (n:=y-1)];exact⟨x,y-1,0,rfl,rfl,hxi.1,by omega,by omega,fun _ _=>rfl,AX⟩
  rw[if_neg (by simp only[decide_eq_true_eq];omega)];exact⟨x,s.length,0,rfl,rfl,hxi.1,by omega,by omega,fun _ _=>rfl,AX⟩
 have e1:(decide (line<0) || decide (line>=((0::X6 s 0:List Int).length:Int)))=true:=by
  simp only[Bool.or_eq_true,decide_eq_true_eq];omega
 rw[e1];simp only[if_true];exact⟨0,0,3,rfl,rfl,by omega,by omega,by omega,fun h1 h2=>by omega,fun n hn=>by omega⟩
theorem KA(s:qa)(n:Nat):Xz (s.take n)<=Xz s:=List.Sublist.countP_le (List.take_sublist n s)
theorem Cs(s:qa)(hs:s.length<=2^28)(off:Int)(h0:0<=off)(h1:off<=s.length):qB (dn s off 1) (fun v=>v.1=Xz (s.take off.toNat)/\0<=v.2.1):=by
 unfold dn;refine .go (a:=true) (by unfold cn;simp) ?_;rw[if_neg (by simp)];refine .bind (Nu s (by omega) off) fun v hv=>?_;rcases hv with ⟨e,_,_,hv⟩|⟨_,_,hv⟩;rotate_left
 ·exact absurd ⟨h0,h1⟩ hv
 rw[if_neg (by simp[e])];have hb:=KA s off.toNat;obtain⟨a,b,c,g1,_,g3,_,_,g4,g5⟩:=og s hs v.1;refine .go g1 ?_;have:=g5 off.toNat hv;refine .bind (qB.kb (by omega) (by simp only;omega) (by omega)) fun r hr=>?_;have Tp:=hr.2;refine .bind (Zm r (by simp only at Tp;omega)) fun w hw=>?_;refine .bind (Ap w _ hw.2) fun u hu=>?_;exact .ret ⟨hv,hu.1⟩
theorem Lf(s:qa)(hs:s.length<=2^28)(n:Int)(hn:0<=n):qB (aH s 1 n) (fun v=>0<=v/\v<=s.length):=by
 have loop: ∀(d k:Nat)(many:Int),k+d=s.length->0<=many->many<=k->qB (gX (s,1,n,many,(k:Int))) (fun v=>match v with| .inl y=>0<=y/\y<=s.length| .inr _=>True):=by
  intro d;induction d with
  |zero=>intro k many h _ _;rw[gX.eq_1,if_neg (by simp;omega)];exact .ret trivial
  |succ d ih=>
   intro k many h m0 m1;rw[gX.eq_1,if_pos (by simp;omega),ws (by omega)];refine .bind .kb fun r hr=>?_;have Tp:=hr.2;refine .bind (Zm r (by omega)) fun w hw=>?_;refine .bind (Ap w _ hw.2) fun u hu=>?_;rw[wi (n:=many+u)];refine .ite (fun _=> .ret ⟨by omega,by omega⟩) fun _=>ih (k+1) _ (by omega) (by omega) (by omega)
 unfold aH;rw[if_neg (by simp;omega)];refine .bind (loop s.length 0 0 (by omega) (by omega) (by omega)) fun v hv=>?_;rcases v with v|v
 ·exact .ret hv
 exact .ret ⟨by omega,by omega⟩
theorem K5(s:qa)(hs:s.length<=2^28)(line col:Int)(hc:0<=col):qB (pz s line col 1) (fun v=>0<=v.1/\v.1<=s.length):=by
 unfold pz;refine .go (a:=true) (by unfold cn;simp) ?_;rw[if_neg (by simp)];obtain⟨a,b,c,g1,g2,g3,g4,g5,_⟩:=og s hs line;refine .go g1 ?_;refine .ite (fun _=> .ret ⟨by simp only;omega,by simp only;omega⟩) fun _=>?_;refine .go g2 ?_;refine .bind (qB.kb (by simp only;omega) (by simp only;omega) (by simp only;omega)) fun r hr=>?_;have Tp:=hr.2;simp only at Tp |-;refine .bind (Lf r (by omega) col hc) fun u hu=>?_;rw[wi (n:=a+u)];exact .ret ⟨by simp only;omega,by simp only;omega⟩
end Xr
namespace Xr
structure XX (n:Int) (q:List qx):Prop where
 ne:q≠[]
 Wi:q.length<=64
 XK:JQ n q
 T8:PU q
theorem aa(n:Int)(l:Sl qx)(hl:l.l.length<2^60):qB (hU n l) (fun v=>v.2=0->XX n v.1.l):=by
 obtain⟨q,c,g1,g2⟩:=TN n l hl;refine⟨(q,c),g1,fun hc=>?_⟩;rcases g2 with ⟨_,h1,h2,h3,rfl⟩|⟨h,_⟩
 ·obtain⟨k1,k2⟩:=K1 l.l;obtain⟨k3,k4⟩:=lE n l.l h3;exact⟨k2 h1,by simp only;omega,k4,k3⟩
 exact absurd hc h
theorem leadT(b:UInt8):qB (vh b) (fun _=>True):=Go.Proofs.YtmllebdamdnhoaaGreat.rU b
theorem sC(b:UInt8):qB (yo b) (fun _=>True):=by
 unfold yo;split<;>exact .ret trivial
section
variable (s:qa) (hs:s.length<=2^28)
include hs
theorem left_L0: ∀k:Nat,k<s.length->qB (vR (s,(k:Int))) (fun v=>0<=v/\v<=k):=by
 intro k;induction k with
 |zero=>intro _;rw[vR.eq_1,if_neg (by simp)];exact .ret ⟨by omega,by omega⟩
 |succ k ih=>
  intro h;obtain⟨b,hb⟩:=gl h;rw[vR.eq_1,if_pos (by simp only[decide_eq_true_eq];omega)];refine .go (gi hb) ?_;refine .bind (leadT b) fun v _=>?_;refine .ite (fun _=>?_) fun _=> .ret ⟨by omega,by omega⟩;rw[show (((k+1:Nat):Int)-1)=(k:Int)from by omega,wi (n:=(k:Int))];exact .mono (ih (by omega)) fun v hv=>⟨hv.1,by omega⟩
theorem EM(a:Int)(h0:0<=a)(h1:a<=s.length):qB (aN s a) (fun v=>0<=v/\v<=s.length):=by
 unfold aN;rw[wi (n:=a-1)];have hl:qB (vR (s,a-1)) (fun v=>v<=s.length):=by
  by_cases c:0<a
  ·obtain⟨k,hk⟩: ∃k:Nat,a-1=k:=⟨(a-1).toNat,by omega⟩;rw[hk];exact .mono (left_L0 s hs k (by omega)) fun v hv=>by omega
  rw[vR.eq_1,if_neg (by simp;omega)];exact .ret (by omega)
 refine .bind hl fun v hv=> .ret ?_;constructor<;>split<;>omega
theorem On: ∀(d k:Nat),k+d=s.length->qB (wG (s,(k:Int))) (fun v=>0<=v/\v<=s.length):=by
 intro d;induction d with
 |zero=>intro k h;rw[wG.eq_1,if_neg (by simp;omega)];exact .ret ⟨by omega,by omega⟩
 |succ d ih=>
  intro k h;obtain⟨b,hb⟩:=gl (l:=s) (k:=k) (by omega);rw[wG.eq_1,if_pos (by simp;omega),ws (by omega)];refine .go (gi hb) ?_;refine .bind (leadT b) fun v _=>?_;exact .ite (fun _=>ih (k+1) (by omega)) fun _=> .ret ⟨by omega,by omega⟩
theorem D6(a:Int)(h0:0<=a)(h1:a<=s.length):qB (dx s a) (fun v=>0<=v/\v<=s.length):=by
 unfold dx;rw[wi (n:=a+1)];have hl:qB (wG (s,a+1)) (fun v=>0<=v):=by
  by_cases c:a+1<=s.length
  ·obtain⟨k,hk⟩: ∃k:Nat,a+1=k:=⟨(a+1).toNat,by omega⟩;rw[hk];exact .mono (On s hs (s.length-k) k (by omega)) fun v hv=>hv.1
  rw[wG.eq_1,if_neg (by simp;omega)];exact .ret (by omega)
 refine .bind hl fun v hv=> .ret ?_;constructor<;>split<;>omega
theorem step_L5: ∀k:Nat,k<=s.length->qB (bk (s,(k:Int))) (fun v=>0<=v/\v<=s.length):=by
 intro k;induction k with
 |zero=>intro _;rw[bk.eq_1,if_neg (by simp)];exact .ret ⟨by omega,by omega⟩
 |succ k ih=>
  intro h;obtain⟨b,hb⟩:=gl (l:=s) (k:=k) (by omega);rw[bk.eq_1,if_pos (by simp only[decide_eq_true_eq];omega),wi (n:=((k+1:Nat):Int)-1),show(((k+1:Nat):Int)-1)=(k:Int)from by omega];refine .go (gi hb) ?_;refine .bind (sC b) fun v _=>?_;exact .ite (fun _=>ih (by omega)) fun _=> .ret ⟨by omega,by omega⟩
theorem step_L7: ∀k:Nat,k<=s.length->qB (bo (s,(k:Int))) (fun v=>0<=v/\v<=s.length):=by
 intro k;induction k with
 |zero=>intro _;rw[bo.eq_1,if_neg (by simp)];exact .ret ⟨by omega,by omega⟩
 |succ k ih=>
  intro h;obtain⟨b,hb⟩:=gl (l:=s) (k:=k) (by omega);rw[bo.eq_1,if_pos (by simp only[decide_eq_true_eq];omega),wi (n:=((k+1:Nat):Int)-1),show(((k+1:Nat):Int)-1)=(k:Int)from by omega];refine .go (gi hb) ?_;refine .bind (sC b) fun v _=>?_;exact .ite (fun _=>ih (by omega)) fun _=> .ret ⟨by omega,by omega⟩
theorem step_L1: ∀(d k:Nat),k+d=s.length->qB (bh (s,(k:Int))) (fun v=>0<=v/\v<=s.length):=by
 intro d;induction d with
 |zero=>intro k h;rw[bh.eq_1,if_neg (by simp;omega)];exact .ret ⟨by omega,by omega⟩
 |succ d ih=>
  intro k h;obtain⟨b,hb⟩:=gl (l:=s) (k:=k) (by omega);rw[bh.eq_1,if_pos (by simp;omega),ws (by omega)];refine .go (gi hb) ?_;refine .bind (sC b) fun v _=>?_;exact .ite (fun _=>ih (k+1) (by omega)) fun _=> .ret ⟨by omega,by omega⟩
theorem step_L3: ∀(d k:Nat),k+d=s.length->qB (bj (s,(k:Int))) (fun v=>0<=v/\v<=s.length):=by
 intro d;induction d with
 |zero=>intro k h;rw[bj.eq_1,if_neg (by simp;omega)];exact .ret ⟨by omega,by omega⟩
 |succ d ih=>
  intro k h;obtain⟨b,hb⟩:=gl (l:=s) (k:=k) (by omega);rw[bj.eq_1,if_pos (by simp;omega),ws (by omega)];refine .go (gi hb) ?_;refine .bind (sC b) fun v _=>?_;exact .ite (fun _=>ih (k+1) (by omega)) fun _=> .ret ⟨by omega,by omega⟩
theorem Kw(a w7:Int)(h0:0<=a)(h1:a<=s.length):qB (ru s a w7) (fun v=>0<=v.1/\v.1<=s.length):=by
 have ZH: ∀{o:Option Int},qB o (fun v=>0<=v/\v<=s.length)->qB (o>>=fun v=>some (v,(0:Int))) (fun v=>0<=v.1/\v.1<=s.length):=fun h=>qB.bind h fun v hv=> .ret hv;unfold ru;refine .ite (fun _=> .ret ⟨by simp only;omega,by simp only;omega⟩) fun _=>?_;rw[if_neg (by simp;omega)];refine .bind (Cs s hs a h0 h1) fun v hv=>?_;obtain⟨v1,v2⟩:=hv;have hbl:=Nx s;have htb:=KA s a.toNat;refine .ite (fun _=>ZH (EM s hs a h0 h1)) fun _=>?_;refine .ite (fun _=>ZH (D6 s hs a h0 h1)) fun _=>?_;refine .ite (fun _=>?_) fun _=>?_
 ·obtain⟨x,y,c,g1,g2,g3,g4,g5,_⟩:=og s hs v.1;exact .go g1 (.ret ⟨by simp only;omega,by simp only;omega⟩)
 refine .ite (fun _=>?_) fun _=>?_
 ·obtain⟨x,y,c,g1,g2,g3,g4,g5,_⟩:=og s hs v.1;exact .go g2 (.ret ⟨by simp only;omega,by simp only;omega⟩)
 refine .ite (fun _=>qB.ite (fun _=>?_) fun _=> .ret ⟨by simp only;omega,by simp only;omega⟩) fun _=>?_
 ·exact .bind (K5 s hs _ _ v2) fun w hw=> .ret hw
 refine .ite (fun _=>?_) fun _=>?_
 ·refine .go (a:=((0::X6 s 0:List Int).length:Int)) (by unfold oq;rw[VR s hs];rfl) ?_;refine .ite (fun _=>?_) fun _=> .ret ⟨by simp only;omega,by simp only;omega⟩;exact .bind (K5 s hs _ _ v2) fun w hw=> .ret hw
 refine .ite (fun _=> .ret ⟨by simp only;omega,by simp only;omega⟩) fun _=>?_;refine .ite (fun _=> .ret ⟨by simp only;omega,by simp only;omega⟩) fun _=>?_;obtain⟨k,rfl⟩: ∃k:Nat,a=k:=⟨a.toNat,by omega⟩;refine .ite (fun _=>?_) fun _=>?_
 ·refine .bind (step_L5 s hs k (by omega)) fun w hw=>?_;obtain⟨j,rfl⟩: ∃j:Nat,w=j:=⟨w.toNat,by omega⟩;exact ZH (step_L7 s hs j (by omega))
 refine .bind (step_L1 s hs (s.length-k) k (by omega)) fun w hw=>?_;obtain⟨j,rfl⟩: ∃j:Nat,w=j:=⟨w.toNat,by omega⟩;exact ZH (step_L3 s hs (s.length-j) j (by omega))
end
theorem head_in{n:Int}{q:List qx}(h:JQ n q){x:qx}(hx:x∈q):0<=x.head/\x.head<=n:=by
 have:=h x hx;have:=iY x;omega
theorem go_L0(s:qa)(hs:s.length<=2^28)(w7:Int)(ext:Bool)(l:Sl qx)(hl:l.l.length<=64)(hi:JQ s.length l.l): ∀(r:List qx)(i:Nat)(out:List qx),l.l.drop i=r->out.length<=i->i<=l.l.length->qB (wt (s,w7,ext,l,(i:Int),out)) (fun v=>v.length<=64):=by
 intro r;induction r with
 |nil=>
  intro i out h ho hi;have:=zc h;rw[wt.eq_1,if_neg (by simp;omega)];exact .ret (by omega)
 |cons x r ih=>
  intro i out h ho BI;obtain⟨h1,h2,h3⟩:=zp h;have hx:=head_in hi (qX h1);rw[wt.eq_1,if_pos (by simp;omega),ws (by omega)];refine .go (gi h1) ?_;refine .go (X4 x) ?_;refine .bind (Kw s hs x.head w7 hx.1 hx.2) fun v hv=>?_;have k: ∀y:qx,qB (if qg (out.length+1) 16=true then wt (s,w7,ext,l,((i+1:Nat):Int),out++[y])else none) (fun v=>v.length<=64):=by
   intro y;rw[if_pos qC];exact ih (i+1) _ h2 (by simp;omega) (by omega)
  refine .ite (fun _=>qB.ite (fun _=>qB.ite (fun _=>qB.ite (fun _=>k _) fun _=>k _) fun _=>qB.ite (fun _=>k _) fun _=>k _) fun _=>k _) fun _=>k _
theorem go_tot(s:qa)(hs:s.length<=2^28)(w7:Int)(ext:Bool)(q:Sl qx)(hq:q.l.length<2^60):qB (QE s w7 ext q) (fun v=>v.2=0->XX s.length v.1.l):=by
 unfold QE;refine .ite (fun _=> .ret fun h=>absurd h (by decide)) fun _=>?_;refine .bind (aa (s.length:Int) q hq) fun v hv=>?_;refine .ite (fun c=> .ret fun h=>absurd h (by simpa using c)) fun c=>?_;have hg:=hv (by simpa using c);refine .bind (go_L0 s hs w7 ext v.1 hg.Wi hg.XK v.1.l 0 [] rfl (by simp) (by simp)) fun w hw=>?_;exact .bind (aa (s.length:Int) ⟨w.isEmpty,w⟩ (by simp only;omega)) fun u hu=> .ret hu
theorem L9(l:Sl qx)(text:qa)(hl:l.l.length<=64): ∀(r:List qx)(i:Nat)(es:List qo),l.l.drop i=r->es.length=i->qB (yw (l,text,(i:Int),es)) (fun v=>v.length=es.length+r.length/\ ∀e∈v,e∈es\/e.text=text):=by
 intro r;induction r with
 |nil=>
  intro i es h ho;have:=zc h;rw[yw.eq_1,if_neg (by simp;omega)];exact .ret ⟨by simp,fun e he=> .inl he⟩
 |cons x r ih=>
  intro i es h ho;obtain⟨h1,h2,h3⟩:=zp h;rw[yw.eq_1,if_pos (by simp;omega),ws (by omega)];refine .go (gi h1) ?_;refine .go (X4 x) ?_;rw[if_pos qC];refine .mono (ih (i+1) _ h2 (by simp;omega)) fun v hv=>⟨by have:=hv.1;simp at this |-; omega,fun e he=>?_⟩;rcases hv.2 e he with h|h
  ·rcases List.mem_append.1 h with h|h
   ·exact .inl h
   simp only[List.mem_singleton]at h;subst h;exact .inr rfl
  exact .inr h
theorem Ur(l:List qo)(n:Nat)(h: ∀e∈l,e.text.length<=n):wu l<=l.length*n:=by
 induction l with
 |nil=>simp[wu]
 |cons e l ih=>
  have h1:=h e (by simp);have h2:=ih fun e' W8=>h e' (by simp[W8]);simp only[wu,List.map_cons,List.sum_cons,List.length_cons]at*
  rw[Nat.add_mul];omega
theorem DA(l:Sl qx)(text:qa)(hl:l.l.length<=64)(ht:text.length<=65536):qB (s8 l text) (fun v=>v.l.length<=64/\wu v.l<=4194304):=by
 unfold s8;refine .bind (L9 l text hl l.l 0 [] rfl rfl) fun v hv=> .ret ?_;have h1:=hv.1;have h2:=Ur v 65536 fun e he=>by
  rcases hv.2 e he with h|h
  ·simp at h
  rw[h];exact ht
 simp only[List.length_nil,Nat.zero_add]at h1;refine⟨by simp only;omega, ?_⟩;have:v.length*65536<=64*65536:=mulR _ (by omega);simp only;omega
theorem SD(s:qa)(hs:s.length<=2^28)(l:Sl qx)(f:Bool)(hl:l.l.length<=64)(hi:JQ s.length l.l): ∀(r:List qx)(i:Nat)(sp:List ql),l.l.drop i=r->sp.length<=i->i<=l.l.length->qB (zW (s,l,f,(i:Int),sp)) (fun v=>v.length<=64):=by
 intro r;induction r with
 |nil=>
  intro i sp h ho BI;have:=zc h;rw[zW.eq_1,if_neg (by simp;omega)];exact .ret (by omega)
 |cons x r ih=>
  intro i sp h ho BI;obtain⟨h1,h2,h3⟩:=zp h;have hx:=hi x (qX h1);have hle:=iY x;rw[zW.eq_1,if_pos (by simp;omega),ws (by omega)];refine .go (gi h1) ?_;refine .go (X4 x) ?_;refine .bind (Kw s hs (yU x).qO 1 hx.1 (by omega)) fun a ha=>?_;refine .bind (Kw s hs (yU x).qO 2 hx.1 (by omega)) fun b hb=>?_;have k: ∀y:ql,qB (if qg (sp.length+1) 16=true then zW (s,l,f,((i+1:Nat):Int),sp++[y])else none) (fun v=>v.length<=64):=by
   intro y;rw[if_pos qC];exact ih (i+1) _ h2 (by simp;omega) (by omega)
  have k0:qB (zW (s,l,f,((i+1:Nat):Int),sp)) (fun v=>v.length<=64):=ih (i+1) _ h2 (by omega) (by omega);exact .ite (fun _=>qB.ite (fun _=>qB.ite (fun _=>k _) fun _=>k0) fun _=>qB.ite (fun _=>k _) fun _=>k0) fun _=>qB.ite (fun _=>k _) fun _=>k0
end Xr
namespace Xr
theorem touch5(a b:ql):ro a b=some (decide (lh a b)):=rfl
theorem Ld(s:Sl ql)(hs:s.l.length<=2^20): ∀(r:List ql)(i:Nat)(out:List ql),s.l.drop i=r->out.length<=i->i<=s.l.length->qB (jW (s,(i:Int),out)) (fun v=>v.length<=s.l.length):=by
 intro r;induction r with
 |nil=>
  intro i out h ho hi;have:=zc h;rw[jW.eq_1,if_neg (by simp;omega)];exact .ret (by omega)
 |cons x r ih=>
  intro i out h ho hi;obtain⟨h1,h2,h3⟩:=zp h;rw[jW.eq_1,if_pos (by simp;omega),ws (by omega)];refine .go (gi h1) ?_;have k: ∀y:ql,qB (if qg (out.length+1) 16=true then jW (s,((i+1:Nat):Int),out++[y])else none) (fun v=>v.length<=s.l.length):=by
   intro y;rw[if_pos qC];exact ih (i+1) _ h2 (by simp;omega) (by omega)
  refine .ite (fun _=>ih (i+1) _ h2 (by omega) (by omega)) fun _=>?_;refine .ite (fun c=>?_) fun _=>k _;have c0:0<out.length:=by simpa using c
  rw[wi (n:=(out.length:Int)-1),show(out.length:Int)-1=((out.length-1:Nat):Int)from by omega];obtain⟨y,hy⟩:=gl (l:=out) (k:=out.length-1) (by omega);refine .go (gi hy) ?_;refine .go (touch5 _ _) ?_;exact .ite (fun _=>ih (i+1) _ h2 (by rw[List.length_set];omega) (by omega)) fun _=>k _
theorem Zs(l:Sl ql)(hl:l.l.length<=64):qB (dq l) (fun v=>v.l.length<=64):=by
 unfold dq;have hp:=(mZ id l.l []).length_eq;simp only[List.nil_append]at hp;refine .go (Bm l (by omega)) ?_;refine .bind (Ld _ (by simp only;omega) _ 0 [] rfl (by simp) (by simp)) fun v hv=> .ret ?_;simp only at hv |-;omega
theorem SE(u:Sl ql)(hu:u.l.length<=64): ∀(r:List ql)(i:Nat)(es:List qo),u.l.drop i=r->es.length<=i->i<=u.l.length->(∀ e∈es,e.text=[])->qB (vt (u,(i:Int),es)) (fun v=>v.length<=64/\ ∀e∈v,e.text=[]):=by
 intro r;induction r with
 |nil=>
  intro i es h ho hi he;have:=zc h;rw[vt.eq_1,if_neg (by simp;omega)];exact .ret ⟨by omega,he⟩
 |cons x r ih=>
  intro i es h ho hi he;obtain⟨h1,h2,h3⟩:=zp h;rw[vt.eq_1,if_pos (by simp;omega),ws (by omega)];refine .go (gi h1) ?_;rw[if_pos qC];refine ih (i+1) _ h2 (by simp;omega) (by omega) fun e h=>?_;rcases List.mem_append.1 h with h|h
  ·exact he e h
  simp only[List.mem_singleton]at h;subst h;rfl
theorem NP(s:qa)(hs:s.length<=2^28)(l:Sl qx)(f:Bool)(hl:l.l.length<=64)(hi:JQ s.length l.l):qB (pS s l f) (fun v=>v.l.length<=64/\wu v.l<=4194304):=by
 unfold pS;refine .bind (SD s hs l f hl hi l.l 0 [] rfl (by simp) (by simp)) fun v hv=>?_;refine .bind (Zs ⟨v.isEmpty,v⟩ hv) fun u hu=>?_;refine .bind (SE u hu u.l 0 [] rfl (by simp) (by simp) (by simp)) fun w hw=> .ret ⟨hw.1, ?_⟩;have:=Ur w 0 fun e he=>by rw[hw.2 e he];simp
 simp only;omega
def free(x:qu):Prop:=x.qJ=false
structure Nums (is:List qw) (ns:List Int):Prop where
 of: ∀n∈ns,vU n is≠[]
 len:ns.length<=2^24+1
theorem RL{n:Int}{is:List qw}{i:qw}(hi:i∈is){x:qu}(hx:x∈i.stops.l)(h1:x.n=n)(h2:x.qJ=false):vU n is≠[]:=by
 intro h;have:x.span∈vU n is:=by
  unfold vU lg;simp only[List.mem_flatMap,List.mem_map,List.mem_filter,isN,zB,Bool.not_eq_true',beq_iff_eq];exact⟨i,hi,x,⟨hx,h2,h1⟩,rfl⟩
 rw[h]at this;simp at this
structure Nc (is:List qw) (m:Nat) (ns:List Int) (z met:Bool):Prop where
 of: ∀n∈ns,vU n is≠[]
 zero:z=true->vU 0 is≠[]
 len:ns.length<=m
 met:met=true->ns≠[]\/z=true
theorem MB(is:Sl qw)(hL:many is.l<=2^24)(i:Nat)(x:qw)(hx:is.l[i]? =some x)(hxl:x.stops.l.length<=2^12): ∀(r:List qu)(k:Nat)(m:Nat)(ns:Sl Int)(z met:Bool),x.stops.l.drop k=r->m+r.length<=2^24->Nc is.l m ns.l z met->
  qB (zV (is,ns,z,(i:Int),(k:Int))) (fun v=>Nc is.l (m+r.length) v.1.l v.2 (met || r.any fun y=> !y.qJ)):=by
 intro r;induction r with
 |nil=>
  intro k m ns z met h hm W;have:=zc h;rw[zV.eq_1];refine .go (gi hx) ?_;rw[if_neg (by simp;omega)];exact .ret (by simpa using W)
 |cons y r ih=>
  intro k m ns z met h hm W;simp only[List.length_cons]at hm;obtain⟨h1,h2,h3⟩:=zp h;have Tu:=qX hx;have DU:=qX h1;rw[zV.eq_1];refine .go (gi hx) ?_;rw[if_pos (by simp;omega),ws (by omega)];refine .go (gi h1) ?_;have hlen:=W.len;have ZH: ∀(ns' :Sl Int)(z' :Bool),Nc is.l (m+1) ns'.l z' (met || !y.qJ)->qB (zV (is,ns',z',(i:Int),((k+1:Nat):Int))) (fun v=>Nc is.l (m+(y::r).length) v.1.l v.2 (met || (y::r).any fun y=> !y.qJ)):=by
   intro ns' z' W';have:=ih (k+1) (m+1) ns' z' (met || !y.qJ) h2 (by omega) W';rw[show m+(y::r).length=m+1+r.length from by simp only[List.length_cons];omega,List.any_cons,<- Bool.or_assoc];exact this
  have put: ∀z' :Bool,y.qJ=false->(z' =true->vU 0 is.l≠[])->qB (pq ns y.n>>=fun v=>zV (is,v,z',(i:Int),((k+1:Nat):Int))) (fun v=>Nc is.l (m+(y::r).length) v.1.l v.2 (met || (y::r).any fun y=> !y.qJ)):=by
   intro z' ht hz;refine .bind (TX ns y.n (by omega)) fun v hv=>?_;obtain⟨v1,v2,v3,v4⟩:=hv;refine ZH v z' ⟨fun n hn=>?_,hz,by omega,fun _=> .inl ?_⟩
   ·rcases v2 n hn with rfl|h
    ·exact RL Tu DU rfl ht
    exact W.of n h
   intro h;rw[h]at v3;simp at v3
  refine .ite (fun c=>?_) fun c=>?_
  ·have ht:y.qJ=false:=by simpa using c
   refine .ite (fun c2=>?_) fun c2=>?_
   ·have h0:vU 0 is.l≠[]:=RL Tu DU (by simpa using c2) ht;refine .ite (fun _=>put true ht fun _=>h0) fun _=>?_;exact ZH ns true ⟨W.of,fun _=>h0,by omega,fun _=> .inr rfl⟩
   refine .ite (fun _=>put z ht W.zero) fun c3=>?_;simp at c2 c3;exact absurd c3 c2
  have ht:y.qJ=true:=by simpa using c
  exact ZH ns z ⟨W.of,W.zero,by omega,by rw[ht];simpa using W.met⟩
theorem MA(is:Sl qw)(hL:many is.l<=2^24)(hb: ∀i∈is.l,i.stops.l.length<=2^12)(hn:is.l.length<=2^12): ∀(r:List qw)(i m:Nat)(ns:Sl Int)(z met:Bool),is.l.drop i=r->m+many r<=2^24->Nc is.l m ns.l z met->
  qB (wm (is,ns,z,(i:Int))) (fun v=>Nc is.l (m+many r) v.1.l v.2 (met || r.any fun x=>x.stops.l.any fun y=> !y.qJ)):=by
 intro r;induction r with
 |nil=>
  intro i m ns z met h hm W;have:=zc h;rw[wm.eq_1,if_neg (by simp;omega)];exact .ret (by simpa[many]using W)
 |cons x r ih=>
  intro i m ns z met h hm W;obtain⟨h1,h2,h3⟩:=zp h;have hx:=hb x (qX h1);have hmc:many (x::r)=x.stops.l.length+many r:=by simp[many]
  rw[wm.eq_1,if_pos (by simp;omega),ws (by omega)];refine .bind (MB is hL i x h1 hx x.stops.l 0 m ns z met rfl (by omega) W) fun v hv=>?_;have:=ih (i+1) (m+x.stops.l.length) v.1 v.2 _ h2 (by omega) hv;rw[hmc,<- Nat.add_assoc,List.any_cons,<- Bool.or_assoc];exact this
theorem iQ(is:Sl qw)(hb: ∀i∈is.l,i.stops.l.length<=2^12)(hn:is.l.length<=2^12):qB (uH is) (fun v=>Nums is.l v.l/\((∃ i∈is.l,∃ x∈i.stops.l,x.qJ=false)->v.l≠[])):=by
 have h1:=Qs hb;have h2:is.l.length*2^12<=2^12*2^12:=Nat.mul_le_mul hn (xJ _);have hm:many is.l<=2^24:=by omega
 unfold uH;refine .bind (MA is hm hb hn is.l 0 0 ⟨true,[]⟩ false false rfl (by omega) ⟨by simp,by simp,by simp,by simp⟩) fun v hv=>?_;have hlen:=hv.len;have hmet:(∃ i∈is.l,∃ x∈i.stops.l,x.qJ=false)->v.1.l≠[]\/v.2=true:=by
  rintro⟨i,hi,x,hx,h⟩;refine hv.met ?_;simp only[Bool.false_or,List.any_eq_true];exact⟨i,hi,x,hx,by simp[h]⟩
 refine .ite (fun c=>?_) fun c=>?_
 ·refine .zm qC (qB.zm qC (.ret ⟨⟨fun n hn=>?_,by simp;omega⟩,fun _=>by simp⟩));rcases List.mem_append.1 hn with h|h
  ·exact hv.of n h
  simp only[List.mem_singleton]at h;subst h;exact hv.zero c
 refine .ret ⟨⟨hv.of,by omega⟩,fun h=>?_⟩;rcases hmet h with h|h
 ·exact h
 exact absurd h c
theorem WB(a b:Int):qB (pw a b) (fun _=>True):=by
 unfold pw;split
 ·split<;>exact .ret trivial
 exact .ret trivial
theorem Ii(cur:Int)(is:Sl qw)(hb: ∀i∈is.l,i.stops.l.length<=2^12)(hn:is.l.length<=2^12):qB (db cur is) (fun v=>v.2=true->vU v.1 is.l≠[]):=by
 have loop: ∀(ns:Sl Int),Nums is.l ns.l-> ∀(d k:Nat),k+d=ns.l.length->qB (uG (cur,ns,(k:Int))) (fun v=>match v with| .inl y=>y.2=true->vU y.1 is.l≠[]| .inr _=>True):=by
  intro ns hN d;have:=hN.len;induction d with
  |zero=>intro k h;rw[uG.eq_1,if_neg (by simp;omega)];exact .ret trivial
  |succ d ih=>
   intro k h;obtain⟨x,hx⟩:=gl (l:=ns.l) (k:=k) (by omega);rw[uG.eq_1,if_pos (by simp;omega),ws (by omega)];refine .go (gi hx) ?_;refine .bind (WB _ _) fun v _=>?_;exact .ite (fun _=> .ret fun _=>hN.of x (qX hx)) fun _=>ih (k+1) (by omega)
 unfold db;refine .bind (iQ is hb hn) fun v hv=>?_;refine .bind (loop v hv.1 v.l.length 0 (by omega)) fun w hw=>?_;rcases w with w|w
 ·exact .ret hw
 exact .ret fun h=>absurd h (by decide)
theorem IA(cur:Int)(is:Sl qw)(hb: ∀i∈is.l,i.stops.l.length<=2^12)(hn:is.l.length<=2^12):qB (dc cur is) (fun v=>v.2=true->vU v.1 is.l≠[]):=by
 have loop: ∀(ns:Sl Int),Nums is.l ns.l-> ∀k:Nat,k<=ns.l.length->qB (uI (cur,ns,(k:Int)-1)) (fun v=>match v with| .inl y=>y.2=true->vU y.1 is.l≠[]| .inr _=>True):=by
  intro ns hN k;have:=hN.len;induction k with
  |zero=>intro h;rw[uI.eq_1,if_neg (by simp)];exact .ret trivial
  |succ k ih=>
   intro h;obtain⟨x,hx⟩:=gl (l:=ns.l) (k:=k) (by omega);rw[show ((k+1:Nat):Int)-1=(k:Int)from by omega,uI.eq_1,if_pos (by simp),wi (n:=(k:Int)-1)];refine .go (gi hx) ?_;refine .bind (WB _ _) fun v _=>?_;exact .ite (fun _=> .ret fun _=>hN.of x (qX hx)) fun _=>ih (by omega)
 unfold dc;refine .bind (iQ is hb hn) fun v hv=>?_;have:=hv.1.len;rw[wi (n:=(v.l.length:Int)-1)];refine .bind (loop v hv.1 v.l.length (xJ _)) fun w hw=>?_;rcases w with w|w
 ·exact .ret hw
 exact .ret fun h=>absurd h (by decide)
end Xr
namespace Xr
theorem wR.sel{st:qr}(h:wR st){q:Sl qx}(g:XX st.text.length q.l):wR ⟨st.text,q,st.qj⟩:=
 ⟨⟨h.may.text,h.may.sB,g.ne,g.Wi,g.XK,g.T8,h.may.may,h.may.lies⟩,h.small,h.stop,h.Jo⟩
theorem PX.take{ss:List qc}(h:PX ss)(k:Nat):PX (ss.take k):=by
 intro j s hs;have hj:=(qG hs).1;rw[List.length_take]at hj;rw[List.getElem?_take_of_lt (by omega)]at hs;obtain⟨h1,h2⟩:=h j s hs;exact tW
theorem wR.take{st:qr}(h:wR st)(k:Nat)(b:Bool):wR ⟨st.text,st.xF,⟨b,st.qj.l.take k⟩⟩:=
 ⟨⟨h.may.text,by simp only[List.length_take];have:=h.may.sB;omega,h.may.ne,h.may.Wi,h.may.XK,h.may.T8,fun s hs=>h.may.may s (List.mem_of_mem_take hs),h.may.lies.take k⟩,
  fun s hs=>h.small s (List.mem_of_mem_take hs),fun s hs=>h.stop s (List.mem_of_mem_take hs),fun s hs=>h.Jo s (List.mem_of_mem_take hs)⟩
theorem wR.cur{st:qr}(h:wR st)(ss:List qc)(s:qc)(e:st.qj.l=ss++[s])(n:Int)(hn:vU n s.insts.l≠[])(b:Bool):wR ⟨st.text,st.xF,⟨b,ss++[⟨n,s.insts⟩]⟩⟩:=by
 have hm: ∀{P:qc->Prop},(∀ x∈st.qj.l,P x)->P ⟨n,s.insts⟩-> ∀x∈ss++[(⟨n,s.insts⟩:qc)],P x:=by
  intro P h1 h2 x hx;rcases List.mem_append.1 hx with hx|hx
  ·exact h1 x (by rw[e];exact List.mem_append_left _ hx)
  simp only[List.mem_singleton]at hx;subst hx;exact h2
 have hs:s∈st.qj.l:=by rw[e];simp
 have hl:=h.may.sB;rw[e]at hl;refine⟨⟨h.may.text,by simpa using hl,h.may.ne,h.may.Wi,h.may.XK,h.may.T8,hm h.may.may (h.may.may s hs), ?_⟩,hm h.small (h.small s hs),hm h.stop (h.stop s hs),hm h.Jo hn⟩;have hL:=h.may.lies;rw[e]at hL;intro j x hx;have hj:=(qG hx).1;simp only[List.length_append,List.length_singleton]at hj;have hprev: ∀p,0<j->(ss++[(⟨n,s.insts⟩:qc)])[j-1]? =some p->(ss++[s])[j-1]? =some p:=by
  intro p h0 hp;rw[List.getElem?_append_left (by omega)]at hp |-;exact hp
 by_cases c:j<ss.length
 ·rw[List.getElem?_append_left c]at hx;obtain⟨h1,h2⟩:=hL j x (by rw[List.getElem?_append_left c];exact hx);exact⟨h1,fun h0 p hp=>h2 h0 p (hprev p h0 hp)⟩
 have M1:j=ss.length:=by omega
 subst M1;rw[List.getElem?_append_right (xJ _)]at hx;simp only[Nat.sub_self,List.getElem?_cons_zero,kX]at hx;subst hx;obtain⟨h1,h2⟩:=hL ss.length s (by rw[List.getElem?_append_right (xJ _)];simp);exact⟨h1,fun h0 p hp=>h2 h0 p (hprev p h0 hp)⟩
theorem AL(n k:Int)(sp:Sl ql)(st t4:qr)(s:qc)(hs:sp.l.length<=2^24): ∀(r:List ql)(i:Nat)(l:List qx),sp.l.drop i=r->l.length<=i->i<=sp.l.length->qB (yO (n,k,sp,(i:Int),st,t4,s,l)) (fun v=>v.length<=2^24):=by
 intro r;induction r with
 |nil=>
  intro i l h ho hi;have:=zc h;rw[yO.eq_1,if_neg (by simp;omega)];exact .ret (by omega)
 |cons x r ih=>
  intro i l h ho hi;obtain⟨h1,h2,h3⟩:=zp h;rw[yO.eq_1,if_pos (by simp;omega),ws (by omega)];refine .go (gi h1) ?_;rw[if_pos qC];exact ih (i+1) _ h2 (by simp;omega) (by omega)
theorem SA(n k:Int)(sp:Sl ql)(st t4:qr)(s:qc)(hs:sp.l.length<=2^24): ∀(r:List ql)(i:Nat)(l:List qx),sp.l.drop i=r->l.length<=i->i<=sp.l.length->qB (wq (n,k,sp,(i:Int),st,t4,s,l)) (fun v=>v.length<=2^24):=by
 intro r;induction r with
 |nil=>
  intro i l h ho hi;have:=zc h;rw[wq.eq_1,if_neg (by simp;omega)];exact .ret (by omega)
 |cons x r ih=>
  intro i l h ho hi;obtain⟨h1,h2,h3⟩:=zp h;rw[wq.eq_1,if_pos (by simp;omega),ws (by omega)];refine .go (gi h1) ?_;rw[if_pos qC];exact ih (i+1) _ h2 (by simp;omega) (by omega)
theorem JV{α:Type}{l:List α}{x:α}(h:l[l.length-1]? =some x):l=l.take (l.length-1)++[x]:=by
 obtain⟨h1,h2⟩:=qG h;have h3:l.take (l.length-1+1)=l.take (l.length-1)++[x]:=by rw[List.take_succ,h];rfl
 exact tW
section
variable {st:qr} (h:wR st)
include h
theorem spl(x:qc)(hx:x∈st.qj.l)(n:Int):km n x.insts=some ⟨(vU n x.insts.l).isEmpty,vU n x.insts.l⟩/\(vU n x.insts.l).length<=2^24:=
 ⟨QJ n x.insts (h.small x hx).2 (h.small x hx).1,Kr (h.small x hx) n⟩
theorem SC(n:Int)(hn: ∀x∈st.qj.l,st.qj.l[st.qj.l.length-1]? =some x->vU n x.insts.l≠[])(jv:st.qj.l≠[]):qB (nC st.text st.xF n st.qj.l) (fun v=>v.2=0->wR v.1):=by
 have hl:=h.may.sB;have bU:=List.length_pos_iff.2 jv;unfold nC;rw[wi (n:=(st.qj.l.length:Int)-1),show(st.qj.l.length:Int)-1=((st.qj.l.length-1:Nat):Int)from by omega];obtain⟨x,hx⟩:=gl (l:=st.qj.l) (k:=st.qj.l.length-1) (by omega);have Tu:=qX hx;refine .go (gi hx) ?_;obtain⟨s1,s2⟩:=spl h x Tu n;refine .go s1 ?_;refine .bind (AL n _ ⟨(vU n x.insts.l).isEmpty,vU n x.insts.l⟩ _ _ x s2 _ 0 [] rfl (by simp) (by simp)) fun w hw=>?_;refine .bind (aa (st.text.length:Int) ⟨w.isEmpty,w⟩ (by simp only;omega)) fun u hu=>?_;refine .ite (fun c=> .ret fun h0=>absurd h0 (by simpa using c)) fun c=>?_;have hg:=hu (by simpa using c);refine .go (Xg _ _ (by omega)) ?_;refine .zm (qC (by simp;omega) (by omega)) ?_;have JO:=wR.sel h hg;refine .ite (fun _=>qB.zm (qC (by simp;omega) (by omega)) (.ret fun _=>?_)) fun _=> .ret fun _=>?_
 ·exact JO.cur _ x (JV hx) n (hn x Tu hx) false
 exact JO.take _ false
theorem lv(n:Int)(hn: ∀x∈st.qj.l,st.qj.l[st.qj.l.length-1]? =some x->vU n x.insts.l≠[])(jv:st.qj.l≠[]):qB (uL st n) (fun v=>v.2=0->wR v.1):=by
 have hl:=h.may.sB;have bU:=List.length_pos_iff.2 jv;unfold uL;rw[wi (n:=(st.qj.l.length:Int)-1),show(st.qj.l.length:Int)-1=((st.qj.l.length-1:Nat):Int)from by omega];obtain⟨x,hx⟩:=gl (l:=st.qj.l) (k:=st.qj.l.length-1) (by omega);have Tu:=qX hx;refine .go (gi hx) ?_;obtain⟨s1,s2⟩:=spl h x Tu n;refine .go s1 ?_;refine .bind (SA n _ ⟨(vU n x.insts.l).isEmpty,vU n x.insts.l⟩ _ _ x s2 _ 0 [] rfl (by simp) (by simp)) fun w hw=>?_;refine .bind (aa (st.text.length:Int) ⟨w.isEmpty,w⟩ (by simp only;omega)) fun u hu=>?_;refine .ite (fun c=> .ret fun h0=>absurd h0 (by simpa using c)) fun c=>?_;have hg:=hu (by simpa using c);refine .go (Xg _ _ (by omega)) ?_;refine .zm (qC (by simp;omega) (by omega)) ?_;have JO:=wR.sel h hg;refine .ite (fun _=>qB.zm (qC (by simp;omega) (by omega)) (.ret fun _=>?_)) fun _=> .ret fun _=>?_
 ·exact JO.cur _ x (JV hx) n (hn x Tu hx) false
 exact JO.take _ false
theorem Gn(jv:st.qj.l≠[]):qB (rm st) wR:=by
 have hl:=h.may.sB;have bU:=List.length_pos_iff.2 jv;unfold rm;rw[wi (n:=(st.qj.l.length:Int)-1),show(st.qj.l.length:Int)-1=((st.qj.l.length-1:Nat):Int)from by omega];refine .go (Xg _ _ (by omega)) ?_;exact .zm (qC (by simp;omega) (by omega)) (.ret (h.take _ false))
theorem JZ{α:Type}{k:Bool->Option α}{Q:α->Prop}(hk:qB (k true) Q):qB (hC st>>=k) Q:=by
 obtain⟨t,m1,m2⟩:=Gu st h.small (by have:=h.may.Wi;omega);obtain rfl:=m2.2 h.may;exact .go m1 hk
theorem Mw:qB (dj st) (fun v=>v.2=0->wR v.1):=by
 have hl:=h.may.sB;unfold dj;refine JZ h ?_;rw[if_neg (by simp)];refine .ite (fun _=> .ret fun h0=>absurd h0 (by decide)) fun c=>?_;have jv:st.qj.l≠[]:=by intro e;rw[e]at c;simp at c
 have bU:=List.length_pos_iff.2 jv;rw[wi (n:=(st.qj.l.length:Int)-1),show(st.qj.l.length:Int)-1=((st.qj.l.length-1:Nat):Int)from by omega];obtain⟨x,hx⟩:=gl (l:=st.qj.l) (k:=st.qj.l.length-1) (by omega);have hs:=h.small x (qX hx);refine .go (gi hx) ?_;refine .bind (Ii x.cur x.insts hs.2 hs.1) fun v hv=>?_;refine .ite (fun _=>qB.bind (Gn h jv) fun u hu=> .ret fun _=>hu) fun c2=>?_;refine .bind (lv h v.1 (fun y _ hy=>?_) jv) fun u hu=> .ret hu;rw[hx]at hy;cases hy;exact hv (by simpa using c2)
theorem MN:qB (dm st) (fun v=>v.2=0->wR v.1):=by
 have hl:=h.may.sB;unfold dm;refine JZ h ?_;rw[if_neg (by simp)];refine .ite (fun _=> .ret fun h0=>absurd h0 (by decide)) fun c=>?_;have jv:st.qj.l≠[]:=by intro e;rw[e]at c;simp at c
 have bU:=List.length_pos_iff.2 jv;rw[wi (n:=(st.qj.l.length:Int)-1),show(st.qj.l.length:Int)-1=((st.qj.l.length-1:Nat):Int)from by omega];obtain⟨x,hx⟩:=gl (l:=st.qj.l) (k:=st.qj.l.length-1) (by omega);have hs:=h.small x (qX hx);refine .go (gi hx) ?_;refine .bind (IA x.cur x.insts hs.2 hs.1) fun v hv=>?_;refine .ite (fun _=> .ret fun h0=>absurd h0 (by decide)) fun c2=>?_;refine .bind (lv h v.1 (fun y _ hy=>?_) jv) fun u hu=> .ret hu;rw[hx]at hy;cases hy;exact hv (by simpa using c2)
theorem Gl:qB (so st) (fun v=>v.2=0->wR v.1):=by
 unfold so;refine JZ h ?_;rw[if_neg (by simp)];have:= @Gn;exact tW
theorem Sq(k n:Int)(x:qc)(hx:x∈st.qj.l)(a:Nat)(i:qw)(hi:x.insts.l[a]? =some i)(t4:qr): ∀(r:List qu)(j:Nat)(has f:Bool)(es:List qo),i.stops.l.drop j=r->es.length<=a+(if f=true then 1 else 0)->wu es<=es.length*17592186044416->
  qB (xC (k,n,has,(a:Int),f,(j:Int),st,t4,x,es)) (fun v=>v.2.length<=a+1/\wu v.2<=v.2.length*17592186044416):=by
 have hs:=h.small x hx;have ha:=(qG hi).1;have fD:=hs.2 i (qX hi);have ha12:=hs.1;intro r;induction r with
 |nil=>
  intro j has f es h0 h1 h2;have:=zc h0;rw[xC.eq_1];refine .go (gi hi) ?_;rw[if_neg (by simp;omega)];exact .ret ⟨by simp only;split at h1<;>omega,h2⟩
 |cons y r ih=>
  intro j has f es h0 h1 h2;obtain⟨g1,g2,g3⟩:=zp h0;have hso:=h.stop x hx i (qX hi) y (qX g1);rw[xC.eq_1];refine .go (gi hi) ?_;rw[if_pos (by simp;omega),ws (by omega)];refine .go (gi g1) ?_;refine .ite (fun _=>ih (j+1) _ _ _ g2 h1 h2) fun _=>?_;have take: ∀has' :Bool,((!f)&&((decide (k>=(0:Int)))&&(decide (k<(y.opts.l.length:Int)))))=true->qB (qi y.opts.l k>>=fun z=>if qg (es.length+1) 32=true then xC (k,n,has',(a:Int),true,((j+1:Nat):Int),st,t4,x,es++[(qo.mk y.span z)])else none) (fun v=>v.2.length<=a+1/\wu v.2<=v.2.length*17592186044416):=by
   intro has' c;simp only[zB,Bool.not_eq_true',decide_eq_true_eq]at c;obtain⟨c1,c2,c3⟩:=c;subst c1;simp only[w9,if_false,Nat.add_zero]at h1;refine .bind (qB.get (by omega) c3) fun z hz=>?_;have hzl:=hso.2 z hz.2;rw[if_pos qC];refine ih (j+1) _ _ _ g2 (by simp;omega) ?_;have:wu (es++[(qo.mk y.span z)])=wu es+z.length:=by simp[wu]
   rw[this,List.length_append,List.length_singleton,Nat.add_mul];omega
  exact .ite (fun _=>qB.ite (fun c=>take _ c) fun _=>ih (j+1) _ _ _ g2 h1 h2) fun _=>qB.ite (fun c=>take _ c) fun _=>ih (j+1) _ _ _ g2 h1 h2
theorem Sp(k n:Int)(x:qc)(hx:x∈st.qj.l)(t4:qr): ∀(r:List qw)(a:Nat)(has:Bool)(es:List qo),x.insts.l.drop a=r->a<=x.insts.l.length->es.length<=a->wu es<=es.length*17592186044416->
  qB (vB (k,n,has,(a:Int),st,t4,x,es)) (fun v=>v.2.length<=4096/\wu v.2<=v.2.length*17592186044416):=by
 have hs:=h.small x hx;have ha12:=hs.1;intro r;induction r with
 |nil=>
  intro a has es h0 WX h1 h2;have:=zc h0;rw[vB.eq_1,if_neg (by simp;omega)];exact .ret ⟨by simp only;omega,h2⟩
 |cons i r ih=>
  intro a has es h0 WX h1 h2;obtain⟨g1,g2,g3⟩:=zp h0;rw[vB.eq_1,if_pos (by simp;omega),ws (by omega)];have:= @Sq;exact tW
end
end Xr
theorem QX(s lead unit:qa)(hs:s.length<=8192002)(hl:lead.length<=1048576)(hu:unit.length<=1048576):qB (gp s lead unit) (fun r=>r.length<=17592186044416):=by
 have key: ∀(r:qa)(k:Nat)(behind:Bool)(b:qa),s.drop k=r->k<=s.length->b.length<=2097153*k->qB (zY (s,lead,unit,behind,(k:Int),b)) (fun r=>r.length<=17592186044416):=by
  have Kj: ∀n,n<=17592186044416->qg n 1=true:=by
   intro n hn;simp only[qg,zB,decide_eq_true_eq];omega
  intro r;induction r with
  |nil=>
   intro k behind b hk G5 hb;rw[zY.eq_1,if_neg (by simpa using vH hk)];exact .ret (by omega)
  |cons c r ih=>
   intro k behind b hk G5 hb;obtain⟨a1,a2,a3,a4⟩:=wv hk;have next: ∀(h:Bool)(e:qa),e.length<=b.length+2097153->qB (zY (s,lead,unit,h,((k+1:Nat):Int),e)) (fun r=>r.length<=17592186044416):=fun h e he=>ih (k+1) h e a3 (by omega) (by omega)
   rw[zY.eq_1,if_pos (by simpa using a1),ia (by omega) a1,a2];exact tW
 unfold gp;exact tW
theorem WV(name:qa)(env:Sl qt)(he:env.l.length<=1099511627776):qB (yj name env) (fun r=>(∃ p∈env.l,r.1=p.value)\/(r.1=[]/\r.2=false)):=by
 have key: ∀(r:List qt)(k:Nat),env.l.drop k=r->qB (wB (name,env,(k:Int))) (fun v=>match v with| .inl y=> ∃p∈env.l,y.1=p.value| .inr _=>True):=by
  intro r;induction r with
  |nil=>
   intro k hk;rw[wB.eq_1,if_neg (by simpa using vH hk)];exact .ret trivial
  |cons c r ih=>
   intro k hk;obtain⟨a1,a2,a3,a4⟩:=wv hk;rw[wB.eq_1,if_pos (by simpa using a1),ia (by omega) a1];exact tW
 unfold yj;exact tW
theorem ZQ(name:qa):qB (pr name) (fun _=>True):=by
 have key: ∀(l:Sl qa)(hl:l.l.length<=1000)(r:List qa)(k:Nat),l.l.drop k=r->qB (yD (name,l,(k:Int))) (fun _=>True):=by
  intro l hl r;induction r with
  |nil=>
   intro k hk;rw[yD.eq_1,if_neg (by simpa using vH hk)];exact .ret trivial
  |cons c r ih=>
   intro k hk;obtain⟨a1,a2,a3,a4⟩:=wv hk;rw[yD.eq_1,if_pos (by simpa using a1),ia (by omega) a1];exact tW
 unfold pr dZ;refine .go rfl ?_;refine .bind (key _ (by simp) _ 0 rfl) fun v _=>?_;rcases v with v|v<;>exact .ret trivial
theorem mW(n:Int)(l:List Int)(hl:l.length<=1099511627776):qB (yc n l) (fun r=>r=true↔n∈l):=by
 have key: ∀(r:List Int)(k:Nat),l.drop k=r->qB (yG (n,(k:Int),l)) (fun v=>(v= .inl true/\n∈r)\/(v= .inr ()/\n∉r)):=by
  intro r;induction r with
  |nil=>
   intro k hk;rw[yG.eq_1,if_neg (by simpa using vH hk)];exact .ret (.inr ⟨rfl,by simp⟩)
  |cons c r ih=>
   intro k hk;obtain⟨a1,a2,a3,a4⟩:=wv hk;rw[yG.eq_1,if_pos (by simpa using a1),ia (by omega) a1];refine .go a2 ?_;exact tW
 unfold yc;exact tW
abbrev Pt:=qb
inductive mI:Int->Nat->List Pt->Prop
 |nil (up:Int) (b:Nat):mI up b []
 |cons (up:Int) (b:Nat) (x:Pt) (qy rest:List Pt) (hu:x.up=up) (he:x.end_=((b+1+qy.length:Nat):Int)) (hd:x.xI=false->qy=[]) (ho:x.opts.l≠[]->qy=[])
   (hk:mI b (b+1) qy) (hr:mI up (b+1+qy.length) rest):mI up b (x::(qy++rest))
theorem mI.app{up:Int}{b:Nat}{l r:List Pt}(h:mI up b l):mI up (b+l.length) r->mI up b (l++r):=by
 induction h with
 |nil up b=>intro hr;simpa using hr
 |cons up b x qy rest hu he hd ho hk _ _ ih=>
  intro hr;have:=mI.cons up b x qy (rest++r) hu he hd ho hk (ih (by
   have:b+(x::(qy++rest)).length=b+1+qy.length+rest.length:=by simp;omega
   rwa[this]at hr))
  simpa using this
theorem mI.one{up:Int}{b:Nat}(x:Pt)(hu:x.up=up)(he:x.end_=((b+1:Nat):Int)):mI up b [x]:=by
 simpa using mI.cons up b x [] [] hu (by simpa using he) (fun _=>rfl) (fun _=>rfl) (.nil _ _) (.nil _ _)
structure DD (k:Nat) (x:Pt):Prop where
 kind:0<=x.kind/\x.kind<=2
 other:x.kind≠1->x.n=0/\x.xI=false/\x.opts.l=[]
 n: -(k:Int)<=x.n/\x.n<=9999
 qP:vW x.qP<=1000000000
 dt:x.xI=true->x.qJ=false
 od:x.xI=false->x.opts.l=[]
 tt:x.qJ=true->x.text.length<=1048576
 tl:x.text.length<=17592186044416
 ol: ∀o∈x.opts.l,o.length<=17592186044416
theorem DD.mono{j k:Nat}(h:j<=k){x:Pt}(p:DD j x):DD k x:=⟨p.kind,p.other,⟨by have:=p.n;omega,p.n.2⟩,p.qP,p.dt,p.od,p.tt,p.tl,p.ol⟩
def defs(r:List Pt):List Int:=(r.filter (·.xI)).map (·.n)
structure tN (r:List Pt) (ds:List Int) (ns:List qa):Prop where
 ok: ∀x∈r,DD ns.length x
 dk: ∀n∈defs r,n∈ds
 un:(defs r).Nodup
 dl:ds.length<=r.length
 nl:ns.length<=r.length
structure eW (env:Sl qt) (lead unit:qa) (up:Int) (r:List Pt) (ns:List qa) (m:Nat) (v:Sl qt×qa×qa×List Pt×List Int×List qa):Prop where
 e1:v.1=env
 e2:v.2.1=lead
 e3:v.2.2.1=unit
 ex: ∃t,v.2.2.2.1=r++t/\mI up r.length t/\t.length<=2*m
 inv:tN v.2.2.2.1 v.2.2.2.2.1 v.2.2.2.2.2
 ns:ns.length<=v.2.2.2.2.2.length
theorem bQ(p:Pt)(b:Sl qt)(b2 b3:qa)(r:List Pt)(r2:List Int)(r3:List qa)(h:r.length<=100000000):
  qB (zJ p b b2 b3 r r2 r3) (fun v=>v=r++[{ p with end_:=((r.length+1:Nat):Int) }]):=by
 unfold zJ;have:= @wr;exact tW
theorem rM(a b:List Pt):defs (a++b)=defs a++defs b:=by simp[defs]
theorem rO(x:Pt):defs [x]=if x.xI then[x.n]else[]:=by unfold defs;cases h:x.xI<;>simp[h]
theorem tN.put{r:List Pt}{ds:List Int}{ns:List qa}(h:tN r ds ns)(x:Pt)(hx:DD ns.length x)(hd:x.xI=false):tN (r++[x]) ds ns where
 ok:=by
  intro y hy;rcases List.mem_append.1 hy with hy|hy
  ·exact h.ok y hy
  exact tW
 dk:=by rw[rM,rO,hd];simpa using h.dk
 un:=by rw[rM,rO,hd];simpa using h.un
 dl:=by have:=h.dl;simp;omega
 nl:=by have:=h.nl;simp;omega
theorem tN.define{r:List Pt}{ds:List Int}{ns:List qa}(h:tN r ds ns)(x:Pt)(hx:DD ns.length x)(hd:x.xI=true)(hn:x.n∉ds):tN (r++[x]) (ds++[x.n]) ns where
 ok:=by
  intro y hy;rcases List.mem_append.1 hy with hy|hy
  ·exact h.ok y hy
  exact tW
 dk:=by
  rw[rM,rO,hd];intro n hn;rcases List.mem_append.1 hn with hn|hn
  ·exact List.mem_append.2 (.inl (h.dk n hn))
  exact List.mem_append.2 (.inr hn)
 un:=by
  rw[rM,rO,hd];refine List.nodup_append.2 ⟨h.un,by simp,fun a ha b hb=>?_⟩;simp only[if_true,List.mem_singleton]at hb;subst hb;exact fun e=>hn (e ▸ h.dk a ha)
 dl:=by have:=h.dl;simp;omega
 nl:=by have:=h.nl;simp;omega
theorem tN.putN{r:List Pt}{ds:List Int}{ns ms:List qa}(h:tN r ds ns)(hm:ns.length<=ms.length/\ms.length<=ns.length+1)(x:Pt)(hx:DD ms.length x)(hd:x.xI=false):tN (r++[x]) ds ms where
 ok:=by
  intro y hy;rcases List.mem_append.1 hy with hy|hy
  ·exact(h.ok y hy).mono hm.1
  exact tW
 dk:=by rw[rM,rO,hd];simpa using h.dk
 un:=by rw[rM,rO,hd];simpa using h.un
 dl:=by have:=h.dl;simp;omega
 nl:=by have:=h.nl;simp;omega
theorem tN.defineN{r:List Pt}{ds:List Int}{ns ms:List qa}(h:tN r ds ns)(hm:ns.length<=ms.length/\ms.length<=ns.length+1)(x:Pt)(hx:DD ms.length x)(hd:x.xI=true)(hn:x.n∉ds):tN (r++[x]) (ds++[x.n]) ms where
 ok:=by
  intro y hy;rcases List.mem_append.1 hy with hy|hy
  ·exact(h.ok y hy).mono hm.1
  exact tW
 dk:=by
  rw[rM,rO,hd];intro n hn;rcases List.mem_append.1 hn with hn|hn
  ·exact List.mem_append.2 (.inl (h.dk n hn))
  exact List.mem_append.2 (.inr hn)
 un:=by
  rw[rM,rO,hd];refine List.nodup_append.2 ⟨h.un,by simp,fun a ha b hb=>?_⟩;simp only[if_true,List.mem_singleton]at hb;subst hb;exact fun e=>hn (e ▸ h.dk a ha)
 dl:=by have:=h.dl;simp;omega
 nl:=by have:=h.nl;simp;omega
theorem tN.names{r:List Pt}{ds:List Int}{ns:List qa}(h:tN r ds ns){ms:List qa}(h1:ns.length<=ms.length)(h2:ms.length<=r.length):tN r ds ms:=
 ⟨fun x hx=>(h.ok x hx).mono h1,h.dk,h.un,h.dl,h2⟩
theorem tN.ZB{r t:List Pt}{p q:Pt}{ds:List Int}{ns:List qa}(h:tN (r++p::t) ds ns)(e:Int)(hq:q={ p with end_:=e }):tN (r++q::t) ds ns where
 ok:=by
  subst hq;intro y hy;rcases List.mem_append.1 hy with hy|hy
  ·exact h.ok y (by simp[hy])
  rcases List.mem_cons.1 hy with rfl|hy
  ·have:=h.ok p (by simp);exact⟨this.kind,this.other,this.n,this.qP,this.dt,this.od,this.tt,this.tl,this.ol⟩
  exact h.ok y (by simp[hy])
 dk:=by
  have e1:defs (r++q::t)=defs (r++p::t):=by
   subst hq;simp only[defs,List.filter_append,List.filter_cons];cases p.xI<;>simp
  rw[e1];exact h.dk
 un:=by
  have e1:defs (r++q::t)=defs (r++p::t):=by
   subst hq;simp only[defs,List.filter_append,List.filter_cons];cases p.xI<;>simp
  rw[e1];exact h.un
 dl:=by have:=h.dl;simpa using this
 nl:=by have:=h.nl;simpa using this
theorem Ym:vW sD=1:=by simp[sD,o7,vW,vS,qK]
structure H5 (env:Sl qt) (lead unit:qa):Prop where
 len:env.l.length<=1099511627776
 val: ∀p∈env.l,p.value.length<=1048576
 lead:lead.length<=1048576
 unit:unit.length<=1048576
section
variable {env:Sl qt} {lead unit:qa}
theorem ZT(name:qa)(r:List Pt)(r2:List Int)(ns:List qa)(hn:ns.length<=100000000):
  qB (yk name env lead unit r r2 ns) (fun v=>ns.length<=v.2.length/\v.2.length<=ns.length+1/\ -(v.2.length:Int)<=v.1/\v.1<0):=by
 have key: ∀(q:List qa)(k:Nat),ns.drop k=q->qB (jM (name,(k:Int),env,lead,unit,r,r2,ns)) (fun v=>match v with| .inl y=> -(ns.length:Int)<=y/\y<0| .inr _=>True):=by
  intro q;induction q with
  |nil=>
   intro k hk;rw[jM.eq_1,if_neg (by simpa using vH hk)];exact .ret trivial
  |cons c q ih=>
   intro k hk;obtain⟨a1,a2,a3,a4⟩:=wv hk;rw[jM.eq_1,if_pos (by simpa using a1),ia (by omega) a1];have:= @wr;exact tW
 unfold yk;refine .bind (key ns 0 rfl) fun v hv=>?_;rcases v with v|v
 ·exact tW
 have:= @wr;exact tW
theorem K8(plain:Bool)(a:Int)(r:List Pt)(r2:List Int)(r3:List qa)(x:qA)(hx:ml x<=8192002)(hE:H5 env lead unit)(p1:Int)(p2:qa)(p3:Int)(d:Bool)(p5 p6:Bool)(p7:Int)(p8:qa)(p9:Bool)(p10:Sl qT)(p11 p12:Int)(p13:Bool)(p14:Sl qF)(p15:Sl zl)(p16 p17:Bool)(p18 p19:Int):
  qB (zQ (plain,a,(0:Int),env,lead,unit,r,r2,r3,x,p1,p2,p3,d,p5,p6,p7,p8,p9,p10,p11,p12,p13,p14,p15,p16,p17,p18,p19,([]:List qa)))
   (fun o=>(d=false->o=[])/\(x.opts.l=[]->o=[])/\ ∀y∈o,y.length<=17592186044416):=by
 have hw:=bt x;have Ef:=xg YM x.opts.l;cases d with
 |false=>
  rw[zQ.eq_1,if_neg (by simp)];exact .ret ⟨fun _=>rfl,fun _=>rfl,by simp⟩
 |true=>
  have key: ∀(q:List qa)(k:Nat)(o:List qa),x.opts.l.drop k=q->o.length=k->k<=x.opts.l.length->(∀ y∈o,y.length<=17592186044416)->
    qB (zQ (plain,a,(k:Int),env,lead,unit,r,r2,r3,x,p1,p2,p3,true,p5,p6,p7,p8,p9,p10,p11,p12,p13,p14,p15,p16,p17,p18,p19,o)) (fun o=>o.length=x.opts.l.length/\ ∀y∈o,y.length<=17592186044416):=by
   intro q;induction q with
   |nil=>
    intro k o hk ho mF hy;rw[zQ.eq_1,if_neg (by simpa using vH hk)];have:=wU hk;exact .ret ⟨by omega,hy⟩
   |cons c q ih=>
    intro k o hk ho mF hy;obtain⟨a1,a2,a3,a4⟩:=wv hk;have hc:F0 c<=qK (x.opts.l.map F0):=xA a4;have hcw:F0 c=1+c.length:=rfl;rw[zQ.eq_1,if_pos (by simpa using a1),ia (by omega) a1];refine .go a2 ?_;refine .bind (QX c lead unit (by omega) hE.lead hE.unit) fun v hv=>?_;refine .zm (by simp only[qg,zB,decide_eq_true_eq];omega) ?_;refine ih (k+1) _ a3 (by simp;omega) (by omega) ?_;intro y Wd;rcases List.mem_append.1 Wd with Wd|Wd
    ·exact hy y Wd
    simp only[List.mem_singleton]at Wd;subst Wd;exact hv
  refine(key x.opts.l 0 [] rfl rfl (by omega) (by simp)).mono fun o ho=>⟨by simp,fun h=>?_,ho.2⟩;have:=ho.1;rw[h]at this;simpa using this
theorem XS{α:Type}(r t:List α)(p q:α):(r++p::t).set r.length q=r++q::t:=by
 rw[List.set_append_right _ _ (xJ _)];simp
theorem Qe{α:Type}(r t:List α)(p:α):qi (r++p::t) (r.length:Int)=some p:=by
 rw[j8 (by simp)];simp
theorem Kx(x:qA)(hx:ml x<=8192002)(hS:WS x)(hk:x.kind=1\/x.kind=2)(up:Int)(hE:H5 env lead unit)(r:List Pt)(ds:List Int)(ns:List qa)(hr:r.length+2*ml x<=40000000)(hI:tN r ds ns)
  (ih: ∀(up:Int)(r:List Pt)(ds:List Int)(ns:List qa),r.length+2*qK (x.qy.l.map ml)<=40000000->tN r ds ns->qB (zD (x.qy,up,env,lead,unit,r,ds,ns)) (eW env lead unit up r ns (qK (x.qy.l.map ml)))):
  qB (kJ (x,up,false,env,lead,unit,r,ds,ns)) (eW env lead unit up r ns (ml x)):=by
 have hw:=bt x;have Lw:=hI.dl;obtain⟨s2,s1,sn⟩:(x.kind=2->x.has=false/\x.qJ=false/\x.qy.l=[]/\0<x.opts.l.length)/\(x.kind=1\/x.kind=3->x.opts.l=[]/\(x.has=true->x.qJ=false)/\(x.has=false->x.qy.l=[]))/\(x.kind=1\/x.kind=2->0<=x.n/\x.n<=9999):=by
  cases hS with|mk _ _ _ a b _ c=>exact⟨a,b,c⟩
 have hn:=sn hk;rw[kJ.eq_1];refine .tI ?_ ?_<;>intro hT
 ·have hd:=hT;have htu:x.qJ=false:=by
   rcases hk with h|h
   ·rcases hd with hd|hd
    ·exact(s1 (.inl h)).2.1 hd
    omega
   exact(s2 h).2.1
  refine .bind (mW x.n ds (by omega)) fun v hv=>?_;refine .bind (K8 _ _ _ _ _ x hx hE _ _ _ (!v) _ _ _ _ _ _ _ _ _ _ _ _ _ _ _) fun o ho=>?_;have hp: ∀e,DD ns.length (qb.mk (1:Int) ([]:qa) x.n (!v) false x.qJ x.qP (⟨o.isEmpty,o⟩:(Sl qa)) up e):=fun e=>
   ⟨by simp only;omega,by simp,⟨by simp only;omega,hn.2⟩,by simp only;omega,fun _=>htu,fun h=>ho.1 h,by simp,by simp,ho.2.2⟩
  refine .bind (bQ _ env lead unit r ds ns (by omega)) fun y hy=>?_;subst hy;refine .tI ?_ ?_<;>intro hT
  ·have Qn:=hT;refine .ret ⟨rfl,rfl,rfl,⟨_,rfl,mI.one _ rfl rfl,by simp;omega⟩,hI.put _ (hp _) (by simp[Qn]),xJ _⟩
  have Qn:=hT;refine .zm (by simp only[qg,zB,decide_eq_true_eq];omega) ?_;rw[if_neg (by simp)];have hI2:=hI.define _ (hp ((r.length+1:Nat):Int)) (by simp[Qn]) (fun h=>by have:=hv.2 h;simp_all);refine .bind (ih (r.length:Int) _ _ _ (by simp;omega) hI2) fun w Tt=>?_;obtain⟨g1,g2,g3,⟨t,g4,g5,g6⟩,g7,g8⟩:=Tt;rw[g4,List.append_assoc]at g7 |-;simp only[List.cons_append,List.nil_append]at g7 |-;refine .go (Qe _ _ _) ?_;rw[Int.toNat_natCast,XS];have hlen:(r++qb.mk (1:Int) ([]:qa) x.n (!v) false x.qJ x.qP (⟨o.isEmpty,o⟩:(Sl qa)) up ((r.length+1:Nat):Int)::t).length=r.length+1+t.length:=by simp;omega
  refine .ret ⟨g1,g2,g3,⟨_,rfl, ?_,by simp;omega⟩, ?_,g8⟩
  ·have hkid:(⟨o.isEmpty,o⟩:Sl qa).l≠[]->t=[]:=by
    intro h;have hko:x.qy.l=[]:=by
     rcases hk with h1|h1
     ·exact absurd (ho.2.1 (s1 (.inl h1)).1) h
     exact(s2 h1).2.2.1
    have:t.length<=0:=by rw[hko]at g6;simpa[qK]using g6
    simpa using this
   have:=mI.cons up r.length (qb.mk (1:Int) ([]:qa) x.n (!v) false x.qJ x.qP (⟨o.isEmpty,o⟩:(Sl qa)) up (((r++qb.mk (1:Int) ([]:qa) x.n (!v) false x.qJ x.qP (⟨o.isEmpty,o⟩:(Sl qa)) up ((r.length+1:Nat):Int)::t).length:Nat):Int)) t [] rfl (by simp only[hlen]) (fun h=>by simp[Qn]at h) hkid (by simpa using g5) (.nil _ _);simpa using this
  exact g7.ZB _ rfl
 have hd:=hT;refine .bind (K8 _ _ _ _ _ x hx hE _ _ _ false _ _ _ _ _ _ _ _ _ _ _ _ _ _ _) fun o ho=>?_;refine .bind (bQ _ env lead unit r ds ns (by omega)) fun y hy=>?_;subst hy;refine .ret ⟨rfl,rfl,rfl,⟨_,rfl,mI.one _ rfl rfl,by simp;omega⟩,hI.put _ ?_ rfl,xJ _⟩;exact⟨by simp only;omega,by simp,⟨by simp only;omega,hn.2⟩,by simp only;omega,by simp,fun _=>ho.1 rfl,by simp,by simp,ho.2.2⟩
end
section
variable {env:Sl qt} {lead unit:qa}
theorem eW.trans{up:Int}{r:List Pt}{ns:List qa}{m1 m2:Nat}{v w:Sl qt×qa×qa×List Pt×List Int×List qa}(h1:eW env lead unit up r ns m1 v)(h2:eW env lead unit up v.2.2.2.1 v.2.2.2.2.2 m2 w):eW env lead unit up r ns (m1+m2) w:=by
 obtain⟨t1,a1,a2,a3⟩:=h1.ex;obtain⟨t2,b1,b2,b3⟩:=h2.ex;refine⟨h2.e1,h2.e2,h2.e3,⟨t1++t2,by rw[b1,a1,List.append_assoc],a2.app ?_,by simp;omega⟩,h2.inv,Nat.le_trans h1.ns h2.ns⟩;rw[a1]at b2;simpa using b2
theorem eW.len{up:Int}{r:List Pt}{ns:List qa}{m:Nat}{v:Sl qt×qa×qa×List Pt×List Int×List qa}(h:eW env lead unit up r ns m v):v.2.2.2.1.length<=r.length+2*m:=by
 obtain⟨t,a1,_,a3⟩:=h.ex;rw[a1];simp;omega
theorem fV{up:Int}{r:List Pt}{ds:List Int}{ns:List qa}(hI:tN r ds ns){x:Pt}(hu:x.up=up)(hd:x.xI=false)(he:x.end_=((r.length+1:Nat):Int))(hp:DD ns.length x){m:Nat}(hm:1<=m):
  eW env lead unit up r ns m (env,lead,unit,r++[x],ds,ns):=
 ⟨rfl,rfl,rfl,⟨_,rfl,mI.one _ hu he,by simp;omega⟩,hI.put _ hp hd,xJ _⟩
theorem Vr(n:Int)(t:qa)(ht:t.length<=8192002)(up:Int)(r:List Pt)(ds:List Int)(ns:List qa)(hr:r.length<=50000000)(hI:tN r ds ns)(ms:List qa)(hms:ns.length<=ms.length/\ms.length<=ns.length+1)(hn: -(ms.length:Int)<=n/\n<0):
  qB (vw ((1:Int),([]:qa),n,true,false,(0:Int),([]:qa),false,(⟨true,([]:List qT)⟩:Sl qT),(0:Int),(0:Int),false,(⟨true,([]:List qF)⟩:Sl qF),(⟨true,([]:List zl)⟩:Sl zl),false,false,(⟨true,([]:List qa)⟩:Sl qa),up,true,env,lead,unit,[(qA.mk (0:Int) t (0:Int) false false (zf.mk (qF.mk (0:Int) ([]:qa) false (⟨true,[]⟩:(Sl qT)) (0:Int) (0:Int) false (⟨true,[]⟩:(Sl qF))) (⟨true,[]⟩:(Sl zl)) false false) (⟨true,[]⟩:(Sl qa)) (⟨true,[]⟩:(Sl qA)))],r,ds,ms))
   (fun v=> ∃r' Ta,v= .inl (r',Ta)/\eW env lead unit up r ns 1 (env,lead,unit,r',Ta,ms)):=by
 have Lw:=hI.dl;have hnl:=hI.nl;rw[vw.eq_1];rw[if_pos (by simp)];refine .bind (mW n ds (by omega)) fun v hv=>?_;refine .go (a:=[]) (by rw[wk.eq_1];simp) ?_;have hp: ∀e,DD ms.length (qb.mk (1:Int) ([]:qa) n (!v) false false (zf.mk (qF.mk (0:Int) ([]:qa) false (⟨true,([]:List qT)⟩:Sl qT) (0:Int) (0:Int) false (⟨true,([]:List qF)⟩:Sl qF)) (⟨true,([]:List zl)⟩:Sl zl) false false) (⟨([]:List qa).isEmpty,[]⟩:(Sl qa)) up e):=fun e=>
  ⟨by simp only;omega,by simp,⟨hn.1,by simp only;omega⟩,by have:=Ym;unfold sD o7 at this;simp only[this];omega,fun _=>rfl,fun _=>rfl,by simp,by simp,by simp⟩
 have hq: ∀e,DD ms.length (qb.mk (0:Int) t (0:Int) false false false (zf.mk (qF.mk (0:Int) ([]:qa) false (⟨true,([]:List qT)⟩:Sl qT) (0:Int) (0:Int) false (⟨true,([]:List qF)⟩:Sl qF)) (⟨true,([]:List zl)⟩:Sl zl) false false) (⟨true,([]:List qa)⟩:(Sl qa)) (r.length:Int) e):=fun e=>
  ⟨by simp only;omega,by simp,⟨by simp only;omega,by simp only;omega⟩,by have:=Ym;unfold sD o7 at this;simp only[this];omega,by simp,fun _=>rfl,by simp,by simp only;omega,by simp⟩
 refine .bind (bQ _ env lead unit r ds ms (by omega)) fun y hy=>?_;subst hy;refine .tI ?_ ?_<;>intro hT
 ·have Qn:=hT;exact .ret ⟨_,_,rfl,⟨rfl,rfl,rfl,⟨_,rfl,mI.one _ rfl rfl,by simp⟩,hI.putN hms _ (hp _) (by simp[Qn]),hms.1⟩⟩
 have Qn:=hT;refine .zm (by simp only[qg,zB,decide_eq_true_eq];omega) ?_;rw[if_pos rfl];refine .go (a:=(qA.mk (0:Int) t (0:Int) false false (zf.mk (qF.mk (0:Int) ([]:qa) false (⟨true,[]⟩:(Sl qT)) (0:Int) (0:Int) false (⟨true,[]⟩:(Sl qF))) (⟨true,[]⟩:(Sl zl)) false false) (⟨true,[]⟩:(Sl qa)) (⟨true,[]⟩:(Sl qA)))) rfl ?_;have hI2:=hI.defineN hms _ (hp ((r.length+1:Nat):Int)) (by simp[Qn]) (fun h=>by have:=hv.2 h;simp_all);refine .bind (bQ _ env lead unit _ _ ms (by simp;omega)) fun y hy=>?_;simp only[List.length_append,List.length_cons,List.length_nil,Nat.zero_add]at hy;subst hy;have hI3:=hI2.put _ (hq ((r.length+1+1:Nat):Int)) rfl;rw[List.append_assoc]at hI3 |-;simp only[List.cons_append,List.nil_append]at hI3 |-;refine .go (Qe _ _ _) ?_;rw[Int.toNat_natCast,XS];refine .ret ⟨_,_,rfl,⟨rfl,rfl,rfl,⟨_,rfl, ?_,by simp⟩,hI3.ZB _ rfl,hms.1⟩⟩;have:=mI.cons (up:=up) (b:=r.length) (qb.mk (1:Int) ([]:qa) n (!v) false false (zf.mk (qF.mk (0:Int) ([]:qa) false (⟨true,([]:List qT)⟩:Sl qT) (0:Int) (0:Int) false (⟨true,([]:List qF)⟩:Sl qF)) (⟨true,([]:List zl)⟩:Sl zl) false false) (⟨([]:List qa).isEmpty,[]⟩:(Sl qa)) up ((r.length+1+1:Nat):Int))
  [qb.mk (0:Int) t (0:Int) false false false (zf.mk (qF.mk (0:Int) ([]:qa) false (⟨true,([]:List qT)⟩:Sl qT) (0:Int) (0:Int) false (⟨true,([]:List qF)⟩:Sl qF)) (⟨true,([]:List zl)⟩:Sl zl) false false) (⟨true,([]:List qa)⟩:(Sl qa)) (r.length:Int) ((r.length+1+1:Nat):Int)] [] rfl (by simp) (fun h=>by simp[Qn]at h) (fun h=>absurd rfl h) (mI.one _ rfl rfl) (.nil _ _)
 have e2:(r.length:Int)+2=(r.length:Int)+1+1:=by omega
 simpa[e2]using this
theorem V3(hE:H5 env lead unit): ∀(m:Nat)(l:Sl qA),qK (l.l.map ml)<=m->m<=8192002->XW l-> ∀(up:Int)(r:List Pt)(ds:List Int)(ns:List qa),r.length+2*qK (l.l.map ml)<=40000000->tN r ds ns->
  qB (zD (l,up,env,lead,unit,r,ds,ns)) (eW env lead unit up r ns (qK (l.l.map ml))):=by
 intro m;induction m using Nat.strongRecOn with
 |_ m ih=>
 intro l hl hm hS up r ds ns hr hI;have hlen:=xg rI l.l;have key: ∀(q:List qA)(k:Nat)(r:List Pt)(ds:List Int)(ns:List qa),l.l.drop k=q->r.length+2*qK (q.map ml)<=40000000->tN r ds ns->
   qB (z8 (l,up,(k:Int),env,lead,unit,r,ds,ns)) (eW env lead unit up r ns (qK (q.map ml))):=by
  intro q;induction q with
  |nil=>
   intro k r ds ns hk hr hI;rw[z8.eq_1,if_neg (by simpa using vH hk)];exact .ret ⟨rfl,rfl,rfl,⟨[],by simp,.nil _ _,by simp⟩,hI,xJ _⟩
  |cons x q ihq=>
   intro k r ds ns hk hr hI;obtain⟨a1,a2,a3,a4⟩:=wv hk;have hx:=xA (f:=ml) a4;have hxw:=bt x;have C6:=rI x;simp only[List.map_cons,qK]at hr |-;have hSx:=hS x a4;have next: ∀v:Sl qt×qa×qa×List Pt×List Int×List qa,eW env lead unit up r ns (ml x) v->
     qB (z8 (l,up,((k+1:Nat):Int),v.1,v.2.1,v.2.2.1,v.2.2.2.1,v.2.2.2.2.1,v.2.2.2.2.2)) (eW env lead unit up r ns (ml x+qK (q.map ml))):=by
    intro v hv;have:=hv.len;rw[hv.e1,hv.e2,hv.e3];exact(ihq (k+1) _ _ _ a3 (by omega) hv.inv).mono fun w hw=>hv.trans hw
   rw[z8.eq_1,if_pos (by simpa using a1),ia (by omega) a1];refine .go a2 ?_;refine .tI ?_ ?_<;>intro hT
   ·refine .bind (QX x.text lead unit (by omega) hE.lead hE.unit) fun t ht=>?_;refine .bind (bQ _ env lead unit r ds ns (by omega)) fun y hy=>?_;subst hy;refine next (env,lead,unit,_,ds,ns) ?_
    refine fV hI ?_ ?_ ?_ ?_ C6;rfl;rfl;rfl;exact⟨by simp only;omega,by simp,⟨by simp only;omega,by simp only;omega⟩,by have:=Ym;unfold sD o7 at this;simp only[this];omega,by simp,fun _=>rfl,by simp,ht,by simp⟩
   have k0:=hT;refine .tI ?_ ?_<;>intro hT
   ·have k3:=hT;refine .bind (WV x.text env hE.len) fun v hv=>?_;have Et:v.1.length<=1048576:=by
     rcases hv with ⟨p,p1,p2⟩|⟨p1,_⟩
     ·rw[p2];exact hE.val p p1
     rw[p1];simp
    refine .tI ?_ ?_<;>intro hT
    ·refine .bind (bQ _ env lead unit r ds ns (by omega)) fun y hy=>?_;subst hy;refine next (env,lead,unit,_,ds,ns) ?_
     refine fV hI ?_ ?_ ?_ ?_ C6;rfl;rfl;rfl;exact⟨by simp only;omega,by simp,⟨by simp only;omega,by simp only;omega⟩,by simp only;omega,by simp,fun _=>rfl,fun _=>Et,by simp only;omega,by simp⟩
    refine .tI ?_ ?_<;>intro hT
    ·refine .bind (ih (qK (x.qy.l.map ml)) (by omega) x.qy (xJ _) (by omega) (by cases hSx;assumption) up r ds ns (by omega) hI) fun v hv=>?_;refine next v ⟨hv.e1,hv.e2,hv.e3, ?_,hv.inv,hv.ns⟩
     obtain⟨t,t1,t2,t3⟩:=hv.ex;exact⟨t,t1,t2,by omega⟩
    refine .bind (ZQ x.text) fun v _=>?_;refine .tI ?_ ?_<;>intro hT
    ·refine .bind (bQ _ env lead unit r ds ns (by omega)) fun y hy=>?_;subst hy;refine next (env,lead,unit,_,ds,ns) ?_
     refine fV hI ?_ ?_ ?_ ?_ C6;rfl;rfl;rfl;exact⟨by simp only;omega,by simp,⟨by simp only;omega,by simp only;omega⟩,by simp only;omega,by simp,fun _=>rfl,by simp,by simp,by simp⟩
    have hnl:=hI.nl;refine .bind (ZT x.text r ds ns (by omega)) fun w hw=>?_;refine .bind (Vr w.1 x.text (by omega) up r ds ns (by omega) hI w.2 ⟨hw.1,hw.2.1⟩ ⟨hw.2.2.1,hw.2.2.2⟩) fun y hy=>?_;obtain⟨r',Ta,rfl,hy⟩:=hy;refine next (env,lead,unit,r',Ta,w.2) ⟨hy.e1,hy.e2,hy.e3, ?_,hy.inv,hy.ns⟩
    obtain⟨t,t1,t2,t3⟩:=hy.ex;exact⟨t,t1,t2,by omega⟩
   have k3:=hT;have hkd:0<=x.kind/\x.kind<=3:=by cases hSx;assumption
   refine .bind (Kx x (by omega) hSx (by omega) up hE r ds ns (by omega) hI ?_) fun v hv=>?_
   ·intro up r ds ns hr hI;exact ih (qK (x.qy.l.map ml)) (by omega) x.qy (xJ _) (by omega) (by cases hSx;assumption) up r ds ns (by omega) hI
   exact next v hv
 rw[zD.eq_1];exact .bind (key l.l 0 r ds ns rfl hr hI) fun v hv=> .ret hv
theorem Me(hE:H5 env lead unit)(l:Sl qA)(hl:qK (l.l.map ml)<=8192002)(hS:XW l)(up:Int):qB (bH l up env lead unit) (eW env lead unit up [] [] (qK (l.l.map ml))):=by
 have hlen:=xg rI l.l;have key: ∀(q:List qA)(k:Nat)(r:List Pt)(ds:List Int)(ns:List qa),l.l.drop k=q->r.length+2*qK (q.map ml)<=40000000->tN r ds ns->
   qB (zr (l,up,(k:Int),env,lead,unit,r,ds,ns)) (eW env lead unit up r ns (qK (q.map ml))):=by
  intro q;induction q with
  |nil=>
   intro k r ds ns hk hr hI;rw[zr.eq_1,if_neg (by simpa using vH hk)];exact .ret ⟨rfl,rfl,rfl,⟨[],by simp,.nil _ _,by simp⟩,hI,xJ _⟩
  |cons x q ihq=>
   intro k r ds ns hk hr hI;obtain⟨a1,a2,a3,a4⟩:=wv hk;have hx:=xA (f:=ml) a4;have hxw:=bt x;have C6:=rI x;simp only[List.map_cons,qK]at hr |-;have hSx:=hS x a4;have next: ∀v:Sl qt×qa×qa×List Pt×List Int×List qa,eW env lead unit up r ns (ml x) v->
     qB (zr (l,up,((k+1:Nat):Int),v.1,v.2.1,v.2.2.1,v.2.2.2.1,v.2.2.2.2.1,v.2.2.2.2.2)) (eW env lead unit up r ns (ml x+qK (q.map ml))):=by
    intro v hv;have:=hv.len;rw[hv.e1,hv.e2,hv.e3];exact(ihq (k+1) _ _ _ a3 (by omega) hv.inv).mono fun w hw=>hv.trans hw
   rw[zr.eq_1,if_pos (by simpa using a1),ia (by omega) a1];refine .go a2 ?_;refine .tI ?_ ?_<;>intro hT
   ·refine .bind (QX x.text lead unit (by omega) hE.lead hE.unit) fun t ht=>?_;refine .bind (bQ _ env lead unit r ds ns (by omega)) fun y hy=>?_;subst hy;refine next (env,lead,unit,_,ds,ns) ?_
    refine fV hI ?_ ?_ ?_ ?_ C6;rfl;rfl;rfl;exact⟨by simp only;omega,by simp,⟨by simp only;omega,by simp only;omega⟩,by have:=Ym;unfold sD o7 at this;simp only[this];omega,by simp,fun _=>rfl,by simp,ht,by simp⟩
   have k0:=hT;refine .tI ?_ ?_<;>intro hT
   ·have k3:=hT;refine .bind (WV x.text env hE.len) fun v hv=>?_;have Et:v.1.length<=1048576:=by
     rcases hv with ⟨p,p1,p2⟩|⟨p1,_⟩
     ·rw[p2];exact hE.val p p1
     rw[p1];simp
    refine .tI ?_ ?_<;>intro hT
    ·refine .bind (bQ _ env lead unit r ds ns (by omega)) fun y hy=>?_;subst hy;refine next (env,lead,unit,_,ds,ns) ?_
     refine fV hI ?_ ?_ ?_ ?_ C6;rfl;rfl;rfl;exact⟨by simp only;omega,by simp,⟨by simp only;omega,by simp only;omega⟩,by simp only;omega,by simp,fun _=>rfl,fun _=>Et,by simp only;omega,by simp⟩
    refine .tI ?_ ?_<;>intro hT
    ·refine .bind (V3 hE (qK (x.qy.l.map ml)) x.qy (xJ _) (by omega) (by cases hSx;assumption) up r ds ns (by omega) hI) fun v hv=>?_;refine next v ⟨hv.e1,hv.e2,hv.e3, ?_,hv.inv,hv.ns⟩
     obtain⟨t,t1,t2,t3⟩:=hv.ex;exact⟨t,t1,t2,by omega⟩
    refine .bind (ZQ x.text) fun v _=>?_;refine .tI ?_ ?_<;>intro hT
    ·refine .bind (bQ _ env lead unit r ds ns (by omega)) fun y hy=>?_;subst hy;refine next (env,lead,unit,_,ds,ns) ?_
     refine fV hI ?_ ?_ ?_ ?_ C6;rfl;rfl;rfl;exact⟨by simp only;omega,by simp,⟨by simp only;omega,by simp only;omega⟩,by simp only;omega,by simp,fun _=>rfl,by simp,by simp,by simp⟩
    have hnl:=hI.nl;refine .bind (ZT x.text r ds ns (by omega)) fun w hw=>?_;refine .bind (Vr w.1 x.text (by omega) up r ds ns (by omega) hI w.2 ⟨hw.1,hw.2.1⟩ ⟨hw.2.2.1,hw.2.2.2⟩) fun y hy=>?_;obtain⟨r',Ta,rfl,hy⟩:=hy;refine next (env,lead,unit,r',Ta,w.2) ⟨hy.e1,hy.e2,hy.e3, ?_,hy.inv,hy.ns⟩
    obtain⟨t,t1,t2,t3⟩:=hy.ex;exact⟨t,t1,t2,by omega⟩
   have k3:=hT;have hkd:0<=x.kind/\x.kind<=3:=by cases hSx;assumption
   refine .bind (Kx x (by omega) hSx (by omega) up hE r ds ns (by omega) hI ?_) fun v hv=>?_
   ·intro up r ds ns hr hI;exact V3 hE (qK (x.qy.l.map ml)) x.qy (xJ _) (by omega) (by cases hSx;assumption) up r ds ns (by omega) hI
   exact next v hv
 unfold bH;exact .bind (key l.l 0 [] [] [] rfl (by simp;omega) ⟨by simp,by simp[defs],by simp[defs],by simp,by simp⟩) fun v hv=> .ret hv
end
def core(x:Pt):Pt:={ x with n:=0,first:=false }
theorem mI.Xs{up:Int}{b:Nat}{l:List Pt}(h:mI up b l): ∀{l' :List Pt},l'.map core=l.map core->mI up b l' :=by
 induction h with
 |nil up b=>intro l' h;simp at h;subst h;exact .nil _ _
 |cons up b x qy rest hu he hd ho hk _ UG XJ=>
  intro l' h;rw[List.map_cons,List.map_append]at h;cases l' with
  |nil=>simp at h
  |cons y t=>
   simp only[List.map_cons,List.cons.injEq]at h;obtain⟨h1,h2⟩:=h;obtain⟨k',r',rfl,e1,e2⟩:=List.map_eq_append_iff.1 h2;have e3:k'.length=qy.length:=by simpa using congrArg List.length e1
   have e4:y.up=x.up:=(congrArg (·.up) h1:(core y).up=(core x).up);have e5:y.end_=x.end_:=(congrArg (·.end_) h1:(core y).end_=(core x).end_);have e6:y.xI=x.xI:=(congrArg (·.xI) h1:(core y).xI=(core x).xI);have e7:y.opts=x.opts:=(congrArg (·.opts) h1:(core y).opts=(core x).opts);refine .cons up b y k' r' (e4.trans hu) (by rw[e5,he,e3]) (fun h=>?_) (fun h=>?_) (UG e1) (by rw[e3];exact XJ e2)
   ·exact tW
   exact tW
theorem mI.end_{up:Int}{b:Nat}{l:List Pt}(h:mI up b l): ∀(i:Nat)(x:Pt),l[i]? =some x->((b+i:Nat):Int)<x.end_/\x.end_<=((b+l.length:Nat):Int):=by
 induction h with
 |nil up b=>intro i x h;simp at h
 |cons up b x qy rest hu he hd ho hk _ UG XJ=>
  intro i y h;exact tW
structure H9 (x:Pt):Prop where
 kind:0<=x.kind/\x.kind<=2
 other:x.kind≠1->x.xI=false/\x.opts.l=[]
 qP:vW x.qP<=1000000000
 dt:x.xI=true->x.qJ=false
 od:x.xI=false->x.opts.l=[]
 tt:x.qJ=true->x.text.length<=1048576
 tl:x.text.length<=17592186044416
 ol: ∀o∈x.opts.l,o.length<=17592186044416
structure Good (P:List Pt):Prop where
 seg:mI (-1) 0 P
 ok: ∀x∈P,H9 x
 n: ∀x∈P,0<=x.n/\x.n<=100000000
 un:(defs P).Nodup
 len:P.length<=40000000
theorem H9.Xs{x y:Pt}(h:H9 x)(e:core y=core x):H9 y:=by
 have e1:y.kind=x.kind:=(congrArg (·.kind) e:(core y).kind=(core x).kind);have e2:y.xI=x.xI:=(congrArg (·.xI) e:(core y).xI=(core x).xI);have e3:y.opts=x.opts:=(congrArg (·.opts) e:(core y).opts=(core x).opts);have e4:y.qP=x.qP:=(congrArg (·.qP) e:(core y).qP=(core x).qP);have e5:y.qJ=x.qJ:=(congrArg (·.qJ) e:(core y).qJ=(core x).qJ);have e6:y.text=x.text:=(congrArg (·.text) e:(core y).text=(core x).text);exact⟨e1 ▸ h.kind,by rw[e1,e2,e3];exact h.other,e4 ▸ h.qP,by rw[e2,e5];exact h.dt,by rw[e2,e3];exact h.od,by rw[e5,e6];exact h.tt,e6 ▸ h.tl,by rw[e3];exact h.ol⟩
theorem EN{l l' :List Pt}(h:l'.map core=l.map core){y:Pt}(hy:y∈l'): ∃x∈l,core y=core x:=by
 have:core y∈l.map core:=by rw[<- h];exact List.mem_map.2 ⟨y,hy,rfl⟩
 exact tW
section
variable {env:Sl qt} {lead unit:qa}
theorem I7(r:List Pt)(ds:List Int)(ns:List qa)(hl:r.length<=40000000)(hn: ∀x∈r,x.n<=9999): ∀(q:List Pt)(k:Nat)(m:Int),r.drop k=q->0<=m->m<=9999->(∀ i x,i<k->r[i]? =some x->x.n<=m)->
  qB (jm (m,(k:Int),env,lead,unit,r,ds,ns)) (fun v=>0<=v/\v<=9999/\ ∀x∈r,x.n<=v):=by
 intro q;induction q with
 |nil=>
  intro k m hk h0 h1 hm;rw[jm.eq_1,if_neg (by simpa using vH hk)];refine .ret ⟨h0,h1,fun x hx=>?_⟩;obtain⟨i,hi⟩:=jz hx;have:=wU hk;exact hm i x (by have:=(qG hi).1;omega) hi
 |cons x q ih=>
  intro k m hk h0 h1 hm;obtain⟨a1,a2,a3,a4⟩:=wv hk;obtain⟨b1,_,_⟩:=drop_cons hk;have hx:=hn x a4;rw[jm.eq_1,if_pos (by simpa using a1),ia (by omega) a1];refine .go a2 ?_;refine ih (k+1) _ a3 (by split<;>omega) (by split<;>omega) ?_;intro i y hi hy;by_cases h:i=k
  ·exact tW
  have:=hm i y (by omega) hy;split<;>omega
def Uc(m n:Int):Int:=if n<0 then m-n else n
def QF(m:Int)(x:Pt):Pt:={ x with n:=Uc m x.n }
theorem ren_tot(ds:List Int)(ns:List qa)(m:Int)(h0:0<=m)(h1:m<=9999): ∀(B A:List Pt),(A++B).length<=40000000->(∀ x∈B,-40000000<=x.n)->
  qB (xM (m,(A.length:Int),env,lead,unit,A++B,ds,ns)) (fun v=>v=A++B.map (QF m)):=by
 intro B;induction B with
 |nil=>
  intro A hl hn;rw[xM.eq_1,if_neg (by simp)];exact .ret rfl
 |cons x B ih=>
  intro A hl hn;have hx:=hn x (by simp);rw[xM.eq_1,if_pos (by simp;omega)];refine .go (Qe _ _ _) ?_;simp only[List.length_append,List.length_cons]at hl;rw[wr (n:=(A.length:Int)+1) (by omega) (by omega)];have e:A++(x::B).map (QF m)=(A++[QF m x])++B.map (QF m):=by simp
  have e2:((A.length:Int)+1)=((A++[QF m x]).length:Int):=by simp
  rw[e];refine .tI ?_ ?_<;>intro hT
  ·rw[Int.toNat_natCast,XS,wr (n:=m-x.n) (by omega) (by omega),e2];have e3:A++(qb.mk x.kind x.text (m-x.n) x.xI x.first x.qJ x.qP x.opts x.up x.end_)::B=(A++[QF m x])++B:=by simp[QF,Uc,hT]
   rw[e3];exact ih _ (by simp;omega) fun y hy=>hn y (by simp[hy])
  rw[e2];have e3:A++x::B=(A++[QF m x])++B:=by
   have: ¬x.n<0:=by omega
   simp[QF,Uc,this]
  rw[e3];exact ih _ (by simp;omega) fun y hy=>hn y (by simp[hy])
theorem lu(n:Int)(r:List Pt)(ds:List Int)(ns:List qa)(hl:r.length<=40000000):
  qB (kH n env lead unit r ds ns) (fun v=>(v= -1/\ ∀x∈r,x.kind=1->x.xI=true->x.n≠n)\/ ∃(d:Nat)(x:Pt),v=d/\r[d]? =some x/\x.kind=1/\x.xI=true/\x.n=n):=by
 have key: ∀(q:List Pt)(k:Nat),r.drop k=q->qB (zP (n,(k:Int),env,lead,unit,r,ds,ns)) (fun v=>match v with| .inl v=> ∃(d:Nat)(x:Pt),v=d/\r[d]? =some x/\x.kind=1/\x.xI=true/\x.n=n| .inr _=> ∀x∈q,x.kind=1->x.xI=true->x.n≠n):=by
  intro q;induction q with
  |nil=>
   intro k hk;rw[zP.eq_1,if_neg (by simpa using vH hk)];exact .ret (by simp)
  |cons x q ih=>
   intro k hk;obtain⟨a1,a2,a3,a4⟩:=wv hk;obtain⟨b1,_,_⟩:=drop_cons hk;have next: ¬(x.kind=1/\x.xI=true/\x.n=n)->qB (zP (n,((k+1:Nat):Int),env,lead,unit,r,ds,ns)) (fun v=>match v with| .inl v=> ∃(d:Nat)(x:Pt),v=d/\r[d]? =some x/\x.kind=1/\x.xI=true/\x.n=n| .inr _=> ∀y∈x::q,y.kind=1->y.xI=true->y.n≠n):=by
    intro h;exact tW
   rw[zP.eq_1,if_pos (by simpa using a1),ia (by omega) a1];exact tW
 unfold kH;refine .bind (key r 0 rfl) fun v hv=>?_;rcases v with v|v
 ·exact .ret (.inr hv)
 exact .ret (.inl ⟨rfl,hv⟩)
theorem SJ(ds:List Int)(ns:List qa): ∀(B A:List Pt)(zE:List Int),(A++B).length<=40000000->zE.length<=A.length->
  qB (zg ((A.length:Int),env,lead,unit,A++B,ds,ns,zE)) (fun v=>v.1.map core=(A++B).map core/\v.1.map (·.n)=(A++B).map (·.n)):=by
 intro B;induction B with
 |nil=>
  intro A zE hl ht;rw[zg.eq_1,if_neg (by simp)];exact .ret ⟨rfl,rfl⟩
 |cons x B ih=>
  intro A zE hl ht;rw[zg.eq_1,if_pos (by simp;omega)];refine .go (Qe _ _ _) ?_;have hl' :=hl;simp only[List.length_append,List.length_cons]at hl;rw[wr (n:=(A.length:Int)+1) (by omega) (by omega)];have e1: ∀y:Pt,((A.length:Int)+1)=((A++[y]).length:Int):=fun y=>by simp
  have e2: ∀y:Pt,A++y::B=(A++[y])++B:=fun y=>by simp
  have skip: ∀t:List Int,t.length<=A.length+1->qB (zg ((A.length:Int)+1,env,lead,unit,A++x::B,ds,ns,t)) (fun v=>v.1.map core=(A++x::B).map core/\v.1.map (·.n)=(A++x::B).map (·.n)):=by
   intro t h;rw[e1 x,e2 x];exact ih (A++[x]) t (by simp;omega) (by simpa using h)
  have mark:qB (zg ((A.length:Int)+1,env,lead,unit,((A++x::B).set (A.length:Int).toNat (qb.mk x.kind x.text x.n x.xI true x.qJ x.qP x.opts x.up x.end_)),ds,ns,zE++[x.n])) (fun v=>v.1.map core=(A++x::B).map core/\v.1.map (·.n)=(A++x::B).map (·.n)):=by
   rw[Int.toNat_natCast,XS,e1 x,show(A++[x]).length=(A++[qb.mk x.kind x.text x.n x.xI true x.qJ x.qP x.opts x.up x.end_]).length by simp,e2];refine(ih _ _ (by simp;omega) (by simp;omega)).mono fun v hv=>⟨hv.1.trans ?_,hv.2.trans ?_⟩
   ·simp[core]
   simp
  have wV:qg (zE.length+1) 8=true:=by simp only[qg,zB,decide_eq_true_eq];omega
  refine .tI ?_ ?_<;>intro hT
  ·refine .tI ?_ ?_<;>intro hT
   ·exact .zm wV mark
   refine .tI ?_ ?_<;>intro hT
   ·refine .bind (lu x.n _ ds ns hl') fun v _=>?_;refine .tI ?_ ?_<;>intro hT
    ·refine .bind (mW x.n zE (by omega)) fun w _=>?_;refine .tI ?_ ?_<;>intro hT
     ·exact .zm wV mark
     exact skip zE (by omega)
    exact skip zE (by omega)
   exact skip zE (by omega)
  exact skip zE (by omega)
theorem ren_inj{m a b:Int}(ha:a<=m)(hb:b<=m)(h0:0<=m)(h:Uc m a=Uc m b):a=b:=by
 unfold Uc at h;split at h<;>split at h<;>omega
theorem WI: ∀{l l' :List Pt},l'.map core=l.map core->l'.map (·.n)=l.map (·.n)->defs l' =defs l
 |[],[],_,_=>rfl
 |[],_::_,h,_=>by simp at h
 |_::_,[],h,_=>by simp at h
 |x::l,y::l',h1,h2=>by
  simp only[List.map_cons,List.cons.injEq]at h1 h2;have e:y.xI=x.xI:=(congrArg (·.xI) h1.1:(core y).xI=(core x).xI);have ih:=WI h1.2 h2.2;unfold defs at ih |-;simp only[List.filter_cons,e];cases x.xI
  ·simpa using ih
  simp[h2.1,ih]
theorem AD(m:Int)(l:List Pt):defs (l.map (QF m))=(defs l).map (Uc m):=by
 induction l with
 |nil=>rfl
 |cons x l ih=>
  unfold defs at ih |-;simp only[List.map_cons,List.filter_cons,QF];exact tW
theorem Vj{α β:Type}{f:α->β}: ∀{l:List α},l.Nodup->(∀ a∈l,∀ b∈l,f a=f b->a=b)->(l.map f).Nodup
 |[],_,_=>by simp
 |x::l,h,hf=>by
  rw[List.nodup_cons]at h;rw[List.map_cons,List.nodup_cons];refine⟨fun hm=>?_,Vj h.2 fun a ha b hb=>hf a (by simp[ha]) b (by simp[hb])⟩;obtain⟨y,hy,e⟩:=List.mem_map.1 hm;have:=hf x (by simp) y (by simp[hy]) e.symm;exact h.1 (this ▸ hy)
theorem YK(r:List Pt)(ds:List Int)(ns:List qa)(hs:mI (-1) 0 r)(hI:tN r ds ns)(hl:r.length<=40000000):qB (uq env lead unit r ds ns) Good:=by
 have hnl:=hI.nl;unfold uq;refine .bind (I7 r ds ns hl (fun x hx=>(hI.ok x hx).n.2) r 0 0 rfl (by omega) (by omega) (by omega)) fun m hm=>?_;have h2:=ren_tot (env:=env) (lead:=lead) (unit:=unit) ds ns m hm.1 hm.2.1 r [] (by simpa using hl) (fun x hx=>by have:=(hI.ok x hx).n;omega);simp only[List.nil_append,List.length_nil]at h2;refine .bind h2 fun p hp=>?_;subst hp;have h4:=SJ (env:=env) (lead:=lead) (unit:=unit) ds ns (r.map (QF m)) [] [] (by simpa using hl) (by simp);simp only[List.nil_append,List.length_nil]at h4;refine .bind h4 fun v hv=> .ret ?_;have hc:v.1.map core=r.map core:=by rw[hv.1,List.map_map];exact List.map_congr_left fun x _=>rfl
 have hd:defs v.1=(defs r).map (Uc m):=by rw[WI hv.1 hv.2,AD]
 refine⟨hs.Xs hc,fun y hy=>?_,fun y hy=>?_, ?_, ?_⟩
 ·obtain⟨x,hx,e⟩:=EN hc hy;have h:=hI.ok x hx;exact H9.Xs ⟨h.kind,fun k=>(h.other k).2,h.qP,h.dt,h.od,h.tt,h.tl,h.ol⟩ e
 ·have:y.n∈(r.map (QF m)).map (·.n):=by rw[<- hv.2];exact List.mem_map.2 ⟨y,hy,rfl⟩
  simp only[List.map_map,List.mem_map,Function.comp]at this;obtain⟨x,hx,e⟩:=this;have h:=(hI.ok x hx).n;rw[<- e];simp only[QF,Uc];split<;>omega
 ·rw[hd];have hle: ∀a∈defs r,a<=m:=by
   intro a ha;obtain⟨x,hx,rfl⟩:=List.mem_map.1 ha;exact hm.2.2 x (List.mem_filter.1 hx).1
  exact Vj hI.un fun a ha b hb=>ren_inj (hle a ha) (hle b hb) hm.1
 have:=congrArg List.length hc;simp only[List.length_map]at this;omega
end
def Holds(P:List Pt)(n m:Int):Prop:= ∃(d e:Nat)(x y:Pt),P[d]? =some x/\x.kind=1/\x.xI=true/\x.n=n/\d<e/\(e:Int)<x.end_/\P[e]? =some y/\y.kind=1/\y.n=m
def VW(P:List Pt):Prop:= ∀n,¬ Relation.TransGen (Holds P) n n
theorem Zk: ∀{a b:List Int},a.Nodup->(∀ x∈a,x∈b)->a.length<=b.length
 |[],b,_,_=>Nat.zero_le _
 |x::a,b,h,hb=>by
  rw[List.nodup_cons]at h;have hx:=hb x (by simp);have h1: ∀y∈a,y∈b.erase x:=fun y hy=>by
   have jv:y≠x:=fun e=>h.1 (e ▸ hy);exact(List.mem_erase_of_ne jv).2 (hb y (by simp[hy]))
  have h2:=Zk h.2 h1;have h3:=List.length_erase_of_mem hx;have h4:=List.length_pos_of_mem hx;simp only[List.length_cons];omega
section
variable {env:Sl qt} {lead unit:qa}
theorem EC(P:List Pt)(ds:List Int)(ns:List qa)(hl:P.length<=40000000)(d:Nat)(x:Pt)(hd:P[d]? =some x)(he:x.end_<=P.length): ∀(m i:Nat)(l:List Int),m=(x.end_-i).toNat->l.length<=100000000-m->
  qB (kl ((d:Int),(i:Int),env,lead,unit,P,ds,ns,l)) (fun v=>(∀ n,n∈v↔n∈l\/ ∃(j:Nat)(y:Pt),i<=j/\(j:Int)<x.end_/\P[j]? =some y/\y.kind=1/\y.n=n)/\(l.Nodup->v.Nodup)):=by
 intro m;induction m using Nat.strongRecOn with
 |_ m ih=>
 intro i l hm SW;have Lw:=(qG hd).1;have hgd:qi P (d:Int)=some x:=by rw[j8 Lw];simpa[kU Lw]using hd
 rw[kl.eq_1];refine .go hgd ?_;have:= @wr;have:= @mW;exact tW
theorem in2_L0(P:List Pt)(ds:List Int)(ns:List qa)(hl:P.length<=40000000)(d:Nat)(x:Pt)(hd:P[d]? =some x)(he:x.end_<=P.length): ∀(m i:Nat)(l:List Int),m=(x.end_-i).toNat->l.length<=100000000-m->
  qB (xR ((d:Int),(i:Int),env,lead,unit,l,P,ds,ns)) (fun v=>(∀ n,n∈v↔n∈l\/ ∃(j:Nat)(y:Pt),i<=j/\(j:Int)<x.end_/\P[j]? =some y/\y.kind=1/\y.n=n)/\(l.Nodup->v.Nodup)/\ ∃t,v=l++t):=by
 intro m;induction m using Nat.strongRecOn with
 |_ m ih=>
 intro i l hm SW;have Lw:=(qG hd).1;have hgd:qi P (d:Int)=some x:=by rw[j8 Lw];simpa[kU Lw]using hd
 rw[xR.eq_1];refine .go hgd ?_;refine .tI ?_ ?_<;>intro hT
 ·have hi:=hT;refine .bind .get fun y hy=>?_;have hyi:P[i]? =some y:=by simpa using hy.1
  rw[wr (n:=(i:Int)+1) (by omega) (by omega),show((i:Int)+1)=((i+1:Nat):Int) by omega];have next: ∀l',l'.length<=l.length+1->(∀ n,n∈l' ↔n∈l\/(y.kind=1/\y.n=n))->(l.Nodup->l'.Nodup)->(∃ t,l' =l++t)->
    qB (xR ((d:Int),((i+1:Nat):Int),env,lead,unit,l',P,ds,ns)) (fun v=>(∀ n,n∈v↔n∈l\/ ∃(j:Nat)(y:Pt),i<=j/\(j:Int)<x.end_/\P[j]? =some y/\y.kind=1/\y.n=n)/\(l.Nodup->v.Nodup)/\ ∃t,v=l++t):=by
   intro l' h1 h2 h3 h4;refine(ih _ (by omega) (i+1) l' rfl (by omega)).mono fun v hv=>⟨fun n=>?_,fun h=>hv.2.1 (h3 h), ?_⟩
   ·rw[hv.1 n,h2 n];constructor
    ·rintro((h|h)|⟨j,z,j1,j2,j3,j4,j5⟩)
     ·exact .inl h
     ·exact .inr ⟨i,y,xJ _,hi,hyi,h.1,h.2⟩
     exact .inr ⟨j,z,by omega,j2,j3,j4,j5⟩
    rintro(h|⟨j,z,j1,j2,j3,j4,j5⟩)
    ·exact .inl (.inl h)
    rcases Nat.eq_or_lt_of_le j1 with rfl|j1
    ·rw[hyi]at j3;cases j3;exact .inl (.inr ⟨j4,j5⟩)
    exact .inr ⟨j,z,j1,j2,j3,j4,j5⟩
   obtain⟨t1,rfl⟩:=h4;obtain⟨t2,h⟩:=hv.2.2;exact⟨t1++t2,by rw[h,List.append_assoc]⟩
  refine .tI ?_ ?_<;>intro hT
  ·have hk:=hT;refine .bind (mW y.n l (by omega)) fun w hw=>?_;refine .tI ?_ ?_<;>intro hT
   ·have JO:=hT;have hnot:y.n∉l:=fun h=>by have:=hw.2 h;rw[JO]at this;cases this
    refine .zm (by simp only[qg,zB,decide_eq_true_eq];omega) (next _ (by simp) (fun n=>?_) (fun h=>?_) ⟨_,rfl⟩)
    ·simp only[List.mem_append,List.mem_singleton,hk,true_and];exact or_congr_right eq_comm
    refine List.nodup_append.2 ⟨h,by simp,fun a ha b hb=>?_⟩;simp only[List.mem_singleton]at hb;subst hb;exact fun e=>hnot (e ▸ ha)
   have JO:=hw.1 hT;refine next l (by omega) (fun n=>?_) id ⟨[],by simp⟩
   constructor
   ·exact .inl
   rintro(h|⟨_,rfl⟩)
   ·exact h
   exact JO
  have hk:=hT;exact next l (by omega) (fun n=>⟨.inl,fun h=>h.elim id fun h=>absurd h.1 hk⟩) id ⟨[],by simp⟩
 have hi:=hT;refine .ret ⟨fun n=>⟨.inl,fun h=>h.elim id ?_⟩,id,[],by simp⟩;rintro⟨j,z,j1,j2,_⟩;omega
theorem XB: ∀{P:List Pt}{i j:Nat}{x y:Pt},(defs P).Nodup->P[i]? =some x->P[j]? =some y->x.xI=true->y.xI=true->x.n=y.n->i=j
 |[],i,j,x,y,_,h1,_,_,_,_=>by simp at h1
 |z::P,i,j,x,y,hn,h1,h2,d1,d2,e=>by
  have tail:(defs P).Nodup:=by
   unfold defs at hn |-;exact tW
  have mem: ∀{k:Nat}{w:Pt},P[k]? =some w->w.xI=true->w.n∈defs P:=fun h hd=>
   List.mem_map.2 ⟨_,List.mem_filter.2 ⟨qX h,hd⟩,rfl⟩
  have head:z.xI=true->z.n∉defs P:=by
   intro hz;unfold defs at hn |-;exact tW
  cases i with
  |zero=>
   exact tW
  |succ i=>
   cases j with
   |zero=>
    exact tW
   |succ j=>
    simp only[List.getElem?_cons_succ]at h1 h2;rw[XB tail h1 h2 d1 d2 e]
theorem Good.end_{P:List Pt}(hP:Good P){i:Nat}{x:Pt}(h:P[i]? =some x):(i:Int)<x.end_/\x.end_<=P.length:=by
 have:=hP.seg.end_ i x h;simpa using this
theorem HK(P:List Pt)(ds:List Int)(ns:List qa)(hP:Good P)(i:Int): ∀(m k:Nat)(l:List Int),m=P.length+1-k->l.Nodup->(∀ n∈l,n∈P.map (·.n))->(∀(j:Nat)(n:Int),j<k->l[j]? =some n-> ∀n',Holds P n n' ->n' ∈l)->k<=l.length->
  qB (kg (i,(k:Int),env,lead,unit,P,ds,ns,l)) (fun v=>(∀ n∈l,n∈v)/\(∀ n∈v,∀ n',Holds P n n' ->n' ∈v)/\v.length<=P.length):=by
 have hl:=hP.len;intro m;induction m using Nat.strongRecOn with
 |_ m ih=>
 intro k l hm DP iL lY mF;have SW:l.length<=P.length:=by simpa using Zk DP iL
 rw[kg.eq_1];refine .tI ?_ ?_<;>intro hT
 ·have hk:=hT;refine .bind .get fun n hn=>?_;have hnk:l[k]? =some n:=by simpa using hn.1
  rw[wr (n:=(k:Int)+1) (by omega) (by omega),show((k:Int)+1)=((k+1:Nat):Int) by omega];refine .bind (lu n P ds ns hl) fun v hv=>?_;refine .tI ?_ ?_<;>intro hT
  ·have Yv:=hT;rcases hv with ⟨rfl,_⟩|⟨d,x,rfl,hd,x1,x2,x3⟩
   ·omega
   have he:=hP.end_ hd;have h2:=in2_L0 (env:=env) (lead:=lead) (unit:=unit) P ds ns hl d x hd he.2 _ (d+1) l rfl (by omega);have h2' :qB (bG (d:Int) env lead unit l P ds ns) (fun v=>(∀ n,n∈v↔n∈l\/ ∃(j:Nat)(y:Pt),d+1<=j/\(j:Int)<x.end_/\P[j]? =some y/\y.kind=1/\y.n=n)/\(l.Nodup->v.Nodup)/\ ∃t,v=l++t):=by
    unfold bG;rw[wr (n:=(d:Int)+1) (by have:=he.1;omega) (by omega),show((d:Int)+1)=((d+1:Nat):Int) by omega];exact .bind h2 fun v hv=> .ret hv
   refine .bind h2' fun w hw=>?_;obtain⟨t,ht⟩:=hw.2.2;have hwn:=hw.2.1 DP;have hsub2: ∀n∈w,n∈P.map (·.n):=by
    intro q hq;rcases(hw.1 q).1 hq with h|⟨j,y,_,_,j3,_,j5⟩
    ·exact iL q h
    exact List.mem_map.2 ⟨y,qX j3,j5⟩
   have Tn: ∀q∈l,q∈w:=fun q hq=>(hw.1 q).2 (.inl hq);refine(ih _ (by omega) (k+1) w rfl hwn hsub2 ?_ (by rw[ht];simp;omega)).mono fun v hv=>⟨fun q hq=>hv.1 q (Tn q hq),hv.2⟩;intro j q hj hq n' SX;by_cases BK:j=k
   ·subst BK;have hqn:q=n:=by
     rw[ht,List.getElem?_append_left (by omega),hnk]at hq;exact(Option.some.inj hq).symm
    subst hqn;obtain⟨d',e,x',y,p1,p2,p3,p4,p5,p6,p7,p8,p9⟩:=SX;have hdd:d' =d:=XB hP.un p1 hd p3 x2 (p4.trans x3.symm);subst hdd;rw[hd]at p1;cases p1;exact(hw.1 n').2 (.inr ⟨e,y,by omega,p6,p7,p8,p9⟩)
   have Ei:l[j]? =some q:=by
    rw[ht,List.getElem?_append_left (by omega)]at hq;exact hq
   exact Tn n' (lY j q (by omega) Ei n' SX)
  have Yv:=hT;refine ih _ (by omega) (k+1) l rfl DP iL ?_ (by omega);intro j q hj hq n' SX;by_cases BK:j=k
  ·subst BK;rw[hnk]at hq;cases hq;obtain⟨d',e,x',y,p1,p2,p3,p4,_⟩:=SX;rcases hv with ⟨_,hv⟩|⟨d,x,rfl,_⟩
   ·exact absurd p4 (hv x' (qX p1) p2 p3)
   omega
  exact lY j q (by omega) hq n' SX
 refine .ret ⟨fun _ h=>h,fun n hn n' SX=>?_,SW⟩;obtain⟨j,hj⟩:=jz hn;exact lY j n (by have:=(qG hj).1;omega) hj n' SX
theorem Mm(P:List Pt)(ds:List Int)(ns:List qa)(hP:Good P):qB (bI env lead unit P ds ns) (fun v=>v=false->VW P):=by
 have hl:=hP.len;have key: ∀(q:List Pt)(k:Nat),P.drop k=q->qB (xn ((k:Int),env,lead,unit,P,ds,ns)) (fun v=>match v with| .inl v=>v=true| .inr _=> ∀(d:Nat)(x:Pt),k<=d->P[d]? =some x->x.kind=1->x.xI=true-> ¬Relation.TransGen (Holds P) x.n x.n):=by
  intro q;induction q with
  |nil=>
   intro k hk;rw[xn.eq_1,if_neg (by simpa using vH hk)];refine .ret fun d x hd h=>?_;have:=wU hk;have:=(qG h).1;omega
  |cons x q ih=>
   intro k hk;obtain⟨a1,a2,a3,a4⟩:=wv hk;obtain⟨b1,_,_⟩:=drop_cons hk;have next:(x.kind=1->x.xI=true-> ¬Relation.TransGen (Holds P) x.n x.n)->qB (xn (((k+1:Nat):Int),env,lead,unit,P,ds,ns)) (fun v=>match v with| .inl v=>v=true| .inr _=> ∀(d:Nat)(x:Pt),k<=d->P[d]? =some x->x.kind=1->x.xI=true-> ¬Relation.TransGen (Holds P) x.n x.n):=by
    intro h;refine(ih (k+1) a3).mono fun v hv=>?_;rcases v with v|v
    ·exact hv
    intro d y hd hy h1 h2;rcases Nat.eq_or_lt_of_le hd with rfl|hd
    ·rw[b1]at hy;cases hy;exact h h1 h2
    exact hv d y hd hy h1 h2
   rw[xn.eq_1,if_pos (by simpa using a1),ia (by omega) a1];refine .go a2 ?_;refine .tI ?_ ?_<;>intro hT
   ·have h0:=hT;exact next fun h=>absurd h h0
   have h1:=hT;refine .tI ?_ ?_<;>intro hT
   ·have h0:=hT;exact next fun _ h=>by rw[h0]at h;cases h
   have h2:=hT;have he:=hP.end_ b1;have sG:qB (mC (k:Int) env lead unit P ds ns) (fun v=>(∀ n,n∈v↔n∈([]:List Int)\/ ∃(j:Nat)(y:Pt),k+1<=j/\(j:Int)<x.end_/\P[j]? =some y/\y.kind=1/\y.n=n)/\(([]:List Int).Nodup->v.Nodup)):=by
    unfold mC;rw[wr (n:=(k:Int)+1) (by omega) (by omega),show((k:Int)+1)=((k+1:Nat):Int) by omega];exact .bind (EC P ds ns hl k x b1 he.2 _ (k+1) [] rfl (by simp)) fun v hv=> .ret hv
   refine .bind sG fun v hv=>?_;have hvn:=hv.2 (by simp);have DT: ∀n∈v,n∈P.map (·.n):=by
    intro q hq;rcases(hv.1 q).1 hq with h|⟨j,y,_,_,j3,_,j5⟩
    ·cases h
    exact List.mem_map.2 ⟨y,qX j3,j5⟩
   have hc:=HK (env:=env) (lead:=lead) (unit:=unit) P ds ns hP (k:Int) _ 0 v rfl hvn DT (fun j n hj=>by omega) (Nat.zero_le _);refine .bind hc fun w hw=>?_;have Eb:w.length<=1099511627776:=by have:=hw.2.2;omega
   refine .bind (mW x.n w Eb) fun y hy=>?_;refine .tI ?_ ?_<;>intro hT
   ·exact .ret rfl
   have hy1:=hT;refine next fun _ _ hloop=>?_
   have all: ∀m,Relation.TransGen (Holds P) x.n m->m∈w:=by
    intro m hm;induction hm with
    |single h=>
     obtain⟨d',e,x',z,p1,p2,p3,p4,p5,p6,p7,p8,p9⟩:=h;have hdd:d' =k:=XB hP.un p1 b1 p3 h2 p4;subst hdd;rw[b1]at p1;cases p1;exact hw.1 _ ((hv.1 _).2 (.inr ⟨e,z,by omega,p6,p7,p8,p9⟩))
    |tail _ h ih=>exact hw.2.1 _ ih _ h
   have:=hy.2 (all _ hloop);rw[hy1]at this;cases this
 unfold bI;refine .bind (key P 0 rfl) fun v hv=>?_;rcases v with v|v
 ·exact .ret fun h=>by rw[hv]at h;cases h
 refine .ret fun _ n hn=>?_;have: ∀m,Relation.TransGen (Holds P) n m-> ∃(d:Nat)(x:Pt),P[d]? =some x/\x.kind=1/\x.xI=true/\x.n=n:=by
  intro m hm;induction hm with
  |single h=>
   obtain⟨d',e,x',z,p1,p2,p3,p4,_⟩:=h;exact⟨d',x',p1,p2,p3,p4⟩
  |tail _ _ ih=>exact ih
 obtain⟨d,x,h1,h2,h3,rfl⟩:=this n hn;exact hv d x (Nat.zero_le _) h1 h2 h3 hn
end
inductive bu (P:List Pt):Int->Nat->Nat->Prop
 |nil (up:Int) (i:Nat):bu P up i i
 |cons (up:Int) (i e hi:Nat) (x:Pt) (hx:P[i]? =some x) (hu:x.up=up) (he:x.end_=(e:Int)) (xB:i<e) (hle:e<=hi) (hk:bu P i (i+1) e) (hd:x.xI=false->e=i+1) (ho:x.opts.l≠[]->e=i+1) (hr:bu P up e hi):bu P up i hi
theorem bu.le{P:List Pt}{up:Int}{i j:Nat}(h:bu P up i j):i<=j:=by
 cases h<;>omega
theorem mI.chain{up:Int}{b:Nat}{l:List Pt}(h:mI up b l): ∀(pre post:List Pt),pre.length=b->bu (pre++l++post) up b (b+l.length):=by
 induction h with
 |nil up b=>intro pre post _;exact .nil _ _
 |cons up b x qy rest hu he hd ho hk _ UG XJ=>
  intro pre post Wc;have e1:b+(x::(qy++rest)).length=b+1+qy.length+rest.length:=by simp;omega
  have h1:=UG (pre++[x]) (rest++post) (by simp[Wc]);have h2:=XJ (pre++[x]++qy) post (by simp[Wc];omega);have e2:pre++[x]++qy++(rest++post)=pre++x::(qy++rest)++post:=by simp
  have e3:pre++[x]++qy++rest++post=pre++x::(qy++rest)++post:=by simp
  rw[e2]at h1;rw[e3]at h2;rw[e1];refine .cons up b (b+1+qy.length) _ x ?_ hu he (by omega) (by omega) h1 (fun h=>?_) (fun h=>?_) h2
  ·exact tW
  ·rw[hd h];rfl
  rw[ho h];rfl
theorem mI.inner{up:Int}{b:Nat}{l:List Pt}(h:mI up b l): ∀(pre post:List Pt),pre.length=b-> ∀(i:Nat)(x:Pt),l[i]? =some x-> ∃e:Nat,x.end_=(e:Int)/\bu (pre++l++post) ((b+i:Nat):Int) (b+i+1) e/\(x.xI=false->e=b+i+1)/\(x.opts.l≠[]->e=b+i+1):=by
 induction h with
 |nil up b=>intro pre post _ i x h;simp at h
 |cons up b x qy rest hu he hd ho hk _ UG XJ=>
  intro pre post Wc i y hy;have e2:pre++[x]++qy++(rest++post)=pre++x::(qy++rest)++post:=by simp
  have e3:pre++[x]++qy++rest++post=pre++x::(qy++rest)++post:=by simp
  cases i with
  |zero=>
   simp only[List.getElem?_cons_zero,kX]at hy;subst hy;refine⟨b+1+qy.length,he, ?_,fun h=>?_,fun h=>?_⟩
   ·have h1:=hk.chain (pre++[x]) (rest++post) (by simp[Wc]);rw[e2]at h1;exact h1
   ·rw[hd h];rfl
   rw[ho h];rfl
  |succ i=>
   simp only[List.getElem?_cons_succ]at hy;by_cases hi:i<qy.length
   ·rw[List.getElem?_append_left hi]at hy;obtain⟨e,f1,f2,f3,f4⟩:=UG (pre++[x]) (rest++post) (by simp[Wc]) i y hy;rw[e2]at f2;have e4:b+1+i=b+(i+1):=by omega
    rw[e4]at f2 f3 f4;exact⟨e,f1,f2,f3,f4⟩
   rw[List.getElem?_append_right (by omega)]at hy;obtain⟨e,f1,f2,f3,f4⟩:=XJ (pre++[x]++qy) post (by simp[Wc];omega) (i-qy.length) y hy;exact tW
theorem Good.chain{P:List Pt}(hP:Good P):bu P (-1) 0 P.length:=by
 have:=hP.seg.chain [] [] rfl;simpa using this
theorem Good.inner{P:List Pt}(hP:Good P){i:Nat}{x:Pt}(h:P[i]? =some x): ∃e:Nat,x.end_=(e:Int)/\bu P (i:Int) (i+1) e/\(x.xI=false->e=i+1)/\(x.opts.l≠[]->e=i+1):=by
 have:=hP.seg.inner [] [] rfl i x h;simpa using this
def oD(ns:List Int)(ts:List qa)(n:Int)(t:qa):Prop:= ∃k:Nat,ns[k]? =some n/\ts[k]? =some t/\ ∀j,j<k->ns[j]? ≠some n
theorem oD.one{ns:List Int}{ts:List qa}{n:Int}{t u:qa}(h1:oD ns ts n t)(h2:oD ns ts n u):t=u:=by
 obtain⟨k,a1,a2,a3⟩:=h1;obtain⟨j,b1,b2,b3⟩:=h2;exact tW
theorem oD.app{ns:List Int}{ts:List qa}{n:Int}{t:qa}(h:oD ns ts n t)(a:List Int)(b:List qa):oD (ns++a) (ts++b) n t:=by
 obtain⟨k,a1,a2,a3⟩:=h;have k1:=(qG a1).1;have k2:=(qG a2).1;refine⟨k,by rw[List.getElem?_append_left k1];exact a1,by rw[List.getElem?_append_left k2];exact a2,fun j hj=>?_⟩;exact tW
theorem oD.new{ns:List Int}{ts:List qa}(hl:ns.length=ts.length){n:Int}(hn:n∉ns)(t:qa):oD (ns++[n]) (ts++[t]) n t:=by
 refine⟨ns.length,by simp,by simp[hl],fun j hj=>?_⟩;exact tW
theorem oD.cases{ns:List Int}{ts:List qa}(hl:ns.length=ts.length){n m:Int}{t u:qa}(hn:n∉ns)(h:oD (ns++[n]) (ts++[t]) m u):(m=n/\u=t)\/oD ns ts m u:=by
 obtain⟨k,a1,a2,a3⟩:=h;by_cases hk:k<ns.length
 ·refine .inr ⟨k,by rw[List.getElem?_append_left hk]at a1;exact a1,by rw[List.getElem?_append_left (by omega)]at a2;exact a2,fun j hj=>?_⟩;exact tW
 exact tW
def DE(P:List Pt)(ns:List Int)(ts:List qa)(i:Nat)(t:qa):Prop:=
 ∃(x:Pt)(b:qa),P[i]? =some x/\(x.kind=1->oD ns ts x.n b)/\(x.kind≠1->b=x.text)/\(x.qJ=false->t=b)/\(x.qJ=true-> ∃l,ui x.qP b 20000=some (t,l,0))
theorem DE.app{P:List Pt}{ns:List Int}{ts:List qa}{i:Nat}{t:qa}(h:DE P ns ts i t)(a:List Int)(b:List qa):DE P (ns++a) (ts++b) i t:=by
 obtain⟨x,c,h1,h2,h3,h4,h5⟩:=h;exact⟨x,c,h1,fun k=>(h2 k).app a b,h3,h4,h5⟩
theorem DE.one{P:List Pt}{ns:List Int}{ts:List qa}{i:Nat}{t u:qa}(h1:DE P ns ts i t)(h2:DE P ns ts i u):t=u:=by
 obtain⟨x,b,a1,a2,a3,a4,a5⟩:=h1;obtain⟨y,c,b1,b2,b3,b4,b5⟩:=h2;rw[a1]at b1;cases b1;have hbc:b=c:=by
  by_cases k:x.kind=1
  ·exact(a2 k).one (b2 k)
  rw[a3 k,b3 k]
 subst hbc;cases ht:x.qJ
 ·rw[a4 ht,b4 ht]
 exact tW
inductive bT (P:List Pt) (ns:List Int) (ts:List qa):Nat->Nat->qa->Prop
 |nil (i:Nat):bT P ns ts i i []
 |cons (i e hi:Nat) (x:Pt) (t u:qa) (hx:P[i]? =some x) (he:x.end_=(e:Int)) (hv:DE P ns ts i t) (hr:bT P ns ts e hi u):bT P ns ts i hi (t++u)
theorem bT.app{P:List Pt}{ns:List Int}{ts:List qa}{i j:Nat}{t:qa}(h:bT P ns ts i j t)(a:List Int)(b:List qa):bT P (ns++a) (ts++b) i j t:=by
 induction h with
 |nil i=>exact .nil i
 |cons i e hi x t u hx he hv _ ih=>exact .cons i e hi x t u hx he (hv.app a b) ih
def Txt(P:List Pt)(ns:List Int)(ts:List qa)(n:Int)(t:qa):Prop:=
 (t=[]/\ ∀x∈P,x.kind=1->x.xI=true->x.n≠n)\/ ∃(d e:Nat)(x:Pt),P[d]? =some x/\x.kind=1/\x.xI=true/\x.n=n/\x.end_=(e:Int)/\(x.opts.l≠[]\/bT P ns ts (d+1) e t)
theorem Txt.app{P:List Pt}{ns:List Int}{ts:List qa}{n:Int}{t:qa}(h:Txt P ns ts n t)(a:List Int)(b:List qa):Txt P (ns++a) (ts++b) n t:=by
 rcases h with h|⟨d,e,x,h1,h2,h3,h4,h5,h6⟩
 ·exact .inl h
 exact .inr ⟨d,e,x,h1,h2,h3,h4,h5,h6.imp id fun h=>h.app a b⟩
structure uS (P:List Pt) (ns:List Int) (ts:List qa):Prop where
 len:ns.length=ts.length
 nd:ns.Nodup
 sub: ∀n∈ns,n∈P.map (·.n)
 txt: ∀n t,oD ns ts n t->Txt P ns ts n t/\t.length<=65536
theorem uS.Kj{P:List Pt}{ns:List Int}{ts:List qa}(h:uS P ns ts):ns.length<=P.length:=by
 simpa using Zk h.nd h.sub
theorem uS.more{P:List Pt}{ns:List Int}{ts:List qa}(h:uS P ns ts){n:Int}(hn:n∉ns)(hs:n∈P.map (·.n)){t:qa}(ht:Txt P ns ts n t)(hl:t.length<=65536):uS P (ns++[n]) (ts++[t]) where
 len:=by simp[h.len]
 nd:=by
  refine List.nodup_append.2 ⟨h.nd,by simp,fun a ha b hb=>?_⟩;exact tW
 sub:=by
  intro m hm;rcases List.mem_append.1 hm with hm|hm
  ·exact h.sub m hm
  exact tW
 txt:=by
  intro m u hu;rcases hu.cases h.len hn with ⟨rfl,rfl⟩|hu
  ·exact⟨ht.app _ _,hl⟩
  exact⟨(h.txt m u hu).1.app _ _,(h.txt m u hu).2⟩
theorem Gr(n:Int)(ns:List Int)(ts:List qa)(hl:ns.length<=1099511627776)(he:ns.length=ts.length):qB (mA n ns ts) (fun v=>(v= -1/\n∉ns)\/ ∃(k:Nat)(t:qa),v=k/\ts[k]? =some t/\k<ts.length/\oD ns ts n t):=by
 have key: ∀(q:List Int)(k:Nat),ns.drop k=q->(∀ j,j<k->ns[j]? ≠some n)->qB (wj (n,(k:Int),ns,ts)) (fun v=>match v with| .inl v=> ∃(k:Nat)(t:qa),v=k/\ts[k]? =some t/\k<ts.length/\oD ns ts n t| .inr _=>n∉q):=by
  intro q;induction q with
  |nil=>
   intro k hk hj;rw[wj.eq_1,if_neg (by simpa using vH hk)];exact .ret (by simp)
  |cons c q ih=>
   intro k hk hj;obtain⟨a1,a2,a3,a4⟩:=wv hk;obtain⟨b1,_,b3⟩:=drop_cons hk;rw[wj.eq_1,if_pos (by simpa using a1),ia (by omega) a1];refine .go a2 ?_;refine .tI ?_ ?_<;>intro hT
   ·have Tk:k<ts.length:=by omega
    have ht:ts[k]? =some ts[k]:=kU Tk;exact .ret ⟨k,ts[k],rfl,ht,Tk,k,by rw[b1,hT],ht,hj⟩
   have jv:=hT;refine(ih (k+1) a3 fun j hj2=>?_).mono fun v hv=>?_
   ·rcases Nat.lt_succ_iff_lt_or_eq.1 hj2 with h|rfl
    ·exact hj j h
    rw[b1];simpa using jv
   rcases v with v|v
   ·exact hv
   intro h;rcases List.mem_cons.1 h with h|h
   ·exact jv h.symm
   exact hv h
 unfold mA;refine .bind (key ns 0 rfl (by omega)) fun v hv=>?_;rcases v with v|v
 ·exact .ret (.inr hv)
 exact .ret (.inl ⟨rfl,hv⟩)
noncomputable def mu (P:List Pt) (n:Int):Nat:=by
 classical exact((P.map (·.n)).filter (fun m=>decide (Relation.TransGen (Holds P) n m))).length
theorem filter_le{p q:Int->Bool}(h: ∀x,p x=true->q x=true): ∀l:List Int,(l.filter p).length<=(l.filter q).length
 |[]=>by simp
 |b::l=>by
  have ih:=filter_le h l;cases hp:p b
  ·cases hq:q b
   ·simpa[hp,hq]using ih
   simp[hp,hq];omega
  have hq:=h b hp;simpa[hp,hq]using ih
theorem filter_lt{p q:Int->Bool}: ∀(l:List Int),(∀ x,p x=true->q x=true)->(∃ x∈l,q x=true/\p x=false)->(l.filter p).length<(l.filter q).length
 |[],_,h=>by obtain⟨x,hx,_⟩:=h;cases hx
 |a::l,h,⟨x,hx,h1,h2⟩=>by
  have hl:=filter_le h l;rcases List.mem_cons.1 hx with rfl|hx
  ·simp[h1,h2];omega
  have ih:=filter_lt l h ⟨x,hx,h1,h2⟩;cases hp:p a
  ·cases hq:q a
   ·simpa[hp,hq]using ih
   simp[hp,hq];omega
  have hq:=h a hp;simpa[hp,hq]using ih
theorem mu_lt{P:List Pt}(hN:VW P){n m:Int}(h:Holds P n m):mu P m<mu P n:=by
 classical
 unfold mu;refine filter_lt _ (fun x hx=>?_) ⟨m, ?_, ?_, ?_⟩
 ·simp only[decide_eq_true_eq]at hx |-;exact Relation.TransGen.trans (.single h) hx
 ·obtain⟨d,e,x,y,_,_,_,_,_,_,h7,_,h9⟩:=h;exact tW
 ·simpa using Relation.TransGen.single h
 simpa using hN m
theorem Io{A B C D E F G H I J:Type}{o:Option (A×B×C×D×E×F×G×H×I×J)}{Q:A×B×C×D×E×F×G×H×I×J->Prop}(h:qB o Q):
  qB (o>>=fun v=>some (v.1,v.2.1,v.2.2.1,v.2.2.2.1,v.2.2.2.2.1,v.2.2.2.2.2.1,v.2.2.2.2.2.2.1,v.2.2.2.2.2.2.2.1,v.2.2.2.2.2.2.2.2.1,v.2.2.2.2.2.2.2.2.2)) Q:=qB.bind h fun v hv=> .ret hv
section
variable {env:Sl qt} {lead unit:qa} {P:List Pt} {ds:List Int} {nm:List qa}
def OfQ(env:Sl qt)(lead unit:qa)(P:List Pt)(ds:List Int)(nm:List qa)(i:Nat)(x:Pt)(ns:List Int)(ts:List qa)(v:qa×Int×Sl qt×qa×qa×List Pt×List Int×List qa×List Int×List qa):Prop:=
 v.1.length<=17592186044416/\(v.2.1=0-> ∃a b,v.2.2=(env,lead,unit,P,ds,nm,ns++a,ts++b)/\uS P (ns++a) (ts++b)/\(∀ m∈a,x.kind=1/\(m=x.n\/Relation.TransGen (Holds P) x.n m))/\DE P (ns++a) (ts++b) i v.1)
def TextQ(env:Sl qt)(lead unit:qa)(P:List Pt)(ds:List Int)(nm:List qa)(n:Int)(ns:List Int)(ts:List qa)(v:qa×Int×Sl qt×qa×qa×List Pt×List Int×List qa×List Int×List qa):Prop:=
 v.2.1=0-> ∃a b,v.2.2=(env,lead,unit,P,ds,nm,ns++a,ts++b)/\uS P (ns++a) (ts++b)/\(∀ m∈a,Relation.TransGen (Holds P) n m)/\Txt P (ns++a) (ts++b) n v.1/\v.1.length<=65536
theorem Zm(hP:Good P)(hN:VW P)(i:Nat)(x:Pt)(hx:P[i]? =some x)(ns:List Int)(ts:List qa)(hM:uS P ns ts)
  (htxt:x.kind=1->qB (vA (x.n,env,lead,unit,P,ds,nm,ns,ts)) (TextQ env lead unit P ds nm x.n ns ts)):
  qB (xH ((i:Int),env,lead,unit,P,ds,nm,ns,ts)) (OfQ env lead unit P ds nm i x ns ts):=by
 have hl:=hP.len;have fD:=(qG hx).1;have Tu:=qX hx;have hg:=hP.ok x Tu;have wV:=hM.Kj;have hlen:=hM.len;rw[xH.eq_1];refine .go (a:=x) (by rw[j8 fD];simpa[kU fD]using hx) ?_;refine .tI ?_ ?_<;>intro hT
 ·have k1:=hT;refine .bind (Gr x.n ns ts (by omega) hlen) fun v hv=>?_;refine .tI ?_ ?_<;>intro hT
  ·have Yv:=hT;have hn:x.n∉ns:=by
    rcases hv with ⟨_,h⟩|⟨k,t,rfl,_⟩
    ·exact h
    omega
   refine .bind (htxt k1) fun w hw=>?_;refine .tI ?_ ?_<;>intro hT
   ·exact .ret ⟨by simp,fun h=>absurd h hT⟩
   have hw0:=hT;obtain⟨a,b,e,m1,m2,m3,m4⟩:=hw hw0;obtain⟨w1,w2,w3⟩:=w;simp only at e m3 m4 hw0;subst e;have hna:x.n∉ns++a:=by
    intro h;rcases List.mem_append.1 h with h|h
    ·exact hn h
    exact hN _ (m2 _ h)
   have hM2:=m1.more hna (List.mem_map.2 ⟨x,Tu,rfl⟩) m3 m4;have r2:=m1.Kj;have l2:=m1.len;simp only;refine .zm (by simp only[qg,zB,decide_eq_true_eq];omega) ?_;refine .zm (by simp only[qg,zB,decide_eq_true_eq];omega) ?_;have e1:IntKind.i64.wrap (((ts++b++[w1]).length:Int)-1)=((ts++b).length:Int):=by
    simp only[List.length_append,List.length_cons,List.length_nil]at r2 l2 |-;rw[wr (by omega) (by omega)];omega
   rw[e1];refine .go (Qe (ts++b) [] w1) ?_;have hLook:=oD.new l2 hna w1;have hadd: ∀m∈a++[x.n],x.kind=1/\(m=x.n\/Relation.TransGen (Holds P) x.n m):=by
    intro m hm;rcases List.mem_append.1 hm with hm|hm
    ·exact⟨k1,.inr (m2 m hm)⟩
    simp only[List.mem_singleton]at hm;exact⟨k1,.inl hm⟩
   refine .tI ?_ ?_<;>intro hT
   ·have ht:=hT;obtain⟨r,hr,hq⟩:=dO x.qP hg.qP w1 (by omega) 20000;refine .go hr ?_;refine .ret ⟨?_,fun h0=>⟨a++[x.n],b++[w1],by simp,by simpa using hM2,hadd,x,w1,hx,fun _=>by simpa using hLook,fun h=>absurd k1 h,fun h=>(by rw[ht]at h;cases h),fun _=>⟨r.2.1, ?_⟩⟩⟩
    ·rcases hq with hq|hq
     ·simp only;omega
     simp only[hq];omega
    rw[hr];simp only at h0 |-;rw[<- h0]
   have ht:=hT;exact .ret ⟨by simp only;omega,fun h0=>⟨a++[x.n],b++[w1],by simp,by simpa using hM2,hadd,x,w1,hx,fun _=>by simpa using hLook,fun h=>absurd k1 h,fun _=>rfl,fun h=>(by rw[ht]at h;cases h)⟩⟩
  have Yv:=hT;rcases hv with ⟨rfl,_⟩|⟨k,t,rfl,hk,mF,hL⟩
  ·omega
  have ht65:=(hM.txt _ _ hL).2;refine .go (a:=t) (by rw[j8 mF];simpa[kU mF]using hk) ?_;refine .tI ?_ ?_<;>intro hT
  ·have ht:=hT;obtain⟨r,hr,hq⟩:=dO x.qP hg.qP t (by omega) 20000;refine .go hr ?_;refine .ret ⟨?_,fun h0=>⟨[],[],by simp,by simpa using hM,by simp,x,t,hx,fun _=>by simpa using hL,fun h=>absurd k1 h,fun h=>(by rw[ht]at h;cases h),fun _=>⟨r.2.1, ?_⟩⟩⟩
   ·rcases hq with hq|hq
    ·simp only;omega
    simp only[hq];omega
   rw[hr];simp only at h0 |-;rw[<- h0]
  have ht:=hT;exact .ret ⟨by simp only;omega,fun h0=>⟨[],[],by simp,by simpa using hM,by simp,x,t,hx,fun _=>by simpa using hL,fun h=>absurd k1 h,fun _=>rfl,fun h=>(by rw[ht]at h;cases h)⟩⟩
 have k1:=hT;refine .tI ?_ ?_<;>intro hT
 ·have ht:=hT;have htt:=hg.tt ht;obtain⟨r,hr,hq⟩:=dO x.qP hg.qP x.text htt 20000;refine .go hr ?_;refine .ret ⟨?_,fun h0=>⟨[],[],by simp,by simpa using hM,by simp,x,x.text,hx,fun h=>absurd h k1,fun _=>rfl,fun h=>(by rw[ht]at h;cases h),fun _=>⟨r.2.1, ?_⟩⟩⟩
  ·rcases hq with hq|hq
   ·simp only;omega
   simp only[hq];omega
  rw[hr];simp only at h0 |-;rw[<- h0]
 have ht:=hT;exact .ret ⟨hg.tl,fun h0=>⟨[],[],by simp,by simpa using hM,by simp,x,x.text,hx,fun h=>absurd h k1,fun _=>rfl,fun _=>rfl,fun h=>(by rw[ht]at h;cases h)⟩⟩
abbrev RowR:=(qa×Int×qa×Sl qt×qa×qa×List Pt×List Int×List qa×List Int×List qa)⊕(qa×Sl qt×qa×qa×List Pt×List Int×List qa×List Int×List qa)
def RowQ(env:Sl qt)(lead unit:qa)(P:List Pt)(ds:List Int)(nm:List qa)(i hi:Nat)(s:qa)(ns:List Int)(ts:List qa):RowR->Prop
 | .inl y=>y.2.1≠0
 | .inr y=> ∃a b t,y=(s++t,env,lead,unit,P,ds,nm,ns++a,ts++b)/\uS P (ns++a) (ts++b)/\(∀ m∈a,∃(j:Nat)(x:Pt),i<=j/\j<hi/\P[j]? =some x/\x.kind=1/\(m=x.n\/Relation.TransGen (Holds P) x.n m))/\bT P (ns++a) (ts++b) i hi t/\(s++t).length<=65536
theorem Oq(hP:Good P){up:Int}{i hi:Nat}(hc:bu P up i hi): ∀(s:qa)(ns:List Int)(ts:List qa),s.length<=65536->uS P ns ts->
  (∀(j:Nat)(x:Pt)(ns:List Int)(ts:List qa),i<=j->j<hi->P[j]? =some x->uS P ns ts->qB (xH ((j:Int),env,lead,unit,P,ds,nm,ns,ts)) (OfQ env lead unit P ds nm j x ns ts))->
  qB (xx ((hi:Int),s,(i:Int),env,lead,unit,P,ds,nm,ns,ts)) (RowQ env lead unit P ds nm i hi s ns ts):=by
 induction hc with
 |nil up i=>
  intro s ns ts hs hM hof;rw[xx.eq_1,if_neg (by simp)];exact .ret ⟨[],[],[],by simp,by simpa using hM,by simp,.nil _,by simpa using hs⟩
 |cons up i e hi x hx hu he xB hle hk hd ho hr _ XJ=>
  intro s ns ts hs hM hof;have fD:=(qG hx).1;rw[xx.eq_1,if_pos (by simp;omega)];refine .bind (hof i x ns ts (xJ _) (by omega) hx hM) fun v hv=>?_;refine .tI ?_ ?_<;>intro hT
  ·exact .ret hT
  have Yv:=hT;obtain⟨a,b,e1,m1,m2,m3⟩:=hv.2 Yv;obtain⟨v1,v2,v3⟩:=v;have Et:=hv.1;simp only at e1 m3 Yv Et;subst e1;simp only;refine .zm (by omega) ?_;refine .tI ?_ ?_<;>intro hT
  ·exact .ret (by simp[RowQ])
  have hlen:=hT;refine .go (a:=x) (by rw[j8 fD];simpa[kU fD]using hx) ?_;rw[he];refine(XJ (s++v1) (ns++a) (ts++b) (by omega) m1 (fun j y ns ts h1 h2=>hof j y ns ts (by omega) h2)).mono fun w hw=>?_;rcases w with w|w
  ·exact hw
  obtain⟨a2,b2,t,w1,w2,w3,w4,w5⟩:=hw;refine⟨a++a2,b++b2,v1++t, ?_, ?_, ?_, ?_, ?_⟩
  ·rw[w1];simp
  ·simpa using w2
  ·intro m hm;rcases List.mem_append.1 hm with hm|hm
   ·exact⟨i,x,xJ _,by omega,hx,m2 m hm⟩
   obtain⟨j,y,j1,j2,j3⟩:=w3 m hm;exact⟨j,y,by omega,j2,j3⟩
  ·have:=bT.cons i e hi x v1 t hx he (m3.app a2 b2) w4;simpa using this
  simpa using w5
theorem Oo(hP:Good P){up:Int}{i hi:Nat}(hc:bu P up i hi): ∀(s:qa)(ns:List Int)(ts:List qa),s.length<=65536->uS P ns ts->
  (∀(j:Nat)(x:Pt)(ns:List Int)(ts:List qa),i<=j->j<hi->P[j]? =some x->uS P ns ts->qB (xH ((j:Int),env,lead,unit,P,ds,nm,ns,ts)) (OfQ env lead unit P ds nm j x ns ts))->
  qB (kI ((hi:Int),s,(i:Int),env,lead,unit,P,ds,nm,ns,ts)) (RowQ env lead unit P ds nm i hi s ns ts):=by
 induction hc with
 |nil up i=>
  intro s ns ts hs hM hof;rw[kI.eq_1,if_neg (by simp)];exact .ret ⟨[],[],[],by simp,by simpa using hM,by simp,.nil _,by simpa using hs⟩
 |cons up i e hi x hx hu he xB hle hk hd ho hr _ XJ=>
  intro s ns ts hs hM hof;have fD:=(qG hx).1;rw[kI.eq_1,if_pos (by simp;omega)];refine .bind (hof i x ns ts (xJ _) (by omega) hx hM) fun v hv=>?_;refine .tI ?_ ?_<;>intro hT
  ·exact .ret hT
  have Yv:=hT;obtain⟨a,b,e1,m1,m2,m3⟩:=hv.2 Yv;obtain⟨v1,v2,v3⟩:=v;have Et:=hv.1;simp only at e1 m3 Yv Et;subst e1;simp only;refine .zm (by omega) ?_;refine .tI ?_ ?_<;>intro hT
  ·exact .ret (by simp[RowQ])
  have hlen:=hT;refine .go (a:=x) (by rw[j8 fD];simpa[kU fD]using hx) ?_;rw[he];refine(XJ (s++v1) (ns++a) (ts++b) (by omega) m1 (fun j y ns ts h1 h2=>hof j y ns ts (by omega) h2)).mono fun w hw=>?_;rcases w with w|w
  ·exact hw
  obtain⟨a2,b2,t,w1,w2,w3,w4,w5⟩:=hw;refine⟨a++a2,b++b2,v1++t, ?_, ?_, ?_, ?_, ?_⟩
  ·rw[w1];simp
  ·simpa using w2
  ·intro m hm;rcases List.mem_append.1 hm with hm|hm
   ·exact⟨i,x,xJ _,by omega,hx,m2 m hm⟩
   obtain⟨j,y,j1,j2,j3⟩:=w3 m hm;exact⟨j,y,by omega,j2,j3⟩
  ·have:=bT.cons i e hi x v1 t hx he (m3.app a2 b2) w4;simpa using this
  simpa using w5
theorem L6(hP:Good P)(hN:VW P): ∀(M:Nat)(n:Int),mu P n=M-> ∀(ns:List Int)(ts:List qa),uS P ns ts->qB (vA (n,env,lead,unit,P,ds,nm,ns,ts)) (TextQ env lead unit P ds nm n ns ts):=by
 have hl:=hP.len;intro M;induction M using Nat.strongRecOn with
 |_ M ih=>
 intro n hn ns ts hM;rw[vA.eq_1];refine .bind (lu n P ds nm hl) fun v hv=>?_;refine .tI ?_ ?_<;>intro hT
 ·have Yv:=hT;rcases hv with ⟨_,h⟩|⟨d,x,rfl,_⟩
  ·exact .ret fun _=>⟨[],[],by simp,by simpa using hM,by simp,.inl ⟨rfl,h⟩,by simp⟩
  omega
 have Yv:=hT;rcases hv with ⟨rfl,_⟩|⟨d,x,rfl,hd,x1,x2,x3⟩
 ·omega
 have Lw:=(qG hd).1;obtain⟨e,he,hc,_,_⟩:=hP.inner hd;refine .go (a:=x) (by rw[j8 Lw];simpa[kU Lw]using hd) ?_;refine .tI ?_ ?_<;>intro hT
 ·have Ef:=hT;refine .bind .get fun o _=>?_;refine .tI ?_ ?_<;>intro hT
  ·exact .ret fun h=>by simp at h
  have hlen:=hT;refine .ret fun _=>⟨[],[],by simp,by simpa using hM,by simp,.inr ⟨d,e,x,hd,x1,x2,x3,he,.inl ?_⟩,by simp only;omega⟩;intro h;rw[h]at Ef;simp at Ef
 have Ef:=hT;have hee:=hP.end_ hd;rw[wr (n:=(d:Int)+1) (by omega) (by omega),show((d:Int)+1)=((d+1:Nat):Int) by omega,he];have sG: ∀(j:Nat)(y:Pt),d+1<=j->j<e->P[j]? =some y->y.kind=1->Holds P n y.n:=fun j y h1 h2 h3 h4=>⟨d,j,x,y,hd,x1,x2,x3,by omega,by omega,h3,h4,rfl⟩;have cE:=Oq (env:=env) (lead:=lead) (unit:=unit) (ds:=ds) (nm:=nm) hP hc [] ns ts (by simp) hM (fun j y ns ts h1 h2 h3 h4=>
  Zm hP hN j y h3 ns ts h4 fun hk=>ih (mu P y.n) (by rw[<- hn];exact mu_lt hN (sG j y h1 h2 h3 hk)) y.n rfl ns ts h4)
 refine Io (o:=yl (((d+1:Nat):Int),(e:Int),env,lead,unit,P,ds,nm,ns,ts)) ?_;rw[yl.eq_1];refine .bind cE fun w hw=>?_;rcases w with w|w
 ·exact .ret fun h=>absurd h hw
 obtain⟨a,b,t,rfl,w2,w3,w4,w5⟩:=hw;refine .ret fun _=>⟨a,b,rfl,w2,fun m hm=>?_,.inr ⟨d,e,x,hd,x1,x2,x3,he,.inr (by simpa using w4)⟩,by simpa using w5⟩;obtain⟨j,y,j1,j2,j3,j4,j5⟩:=w3 m hm;have h:=sG j y j1 j2 j3 j4;rcases j5 with rfl|j5
 ·exact .single h
 exact Relation.TransGen.trans (.single h) j5
end
inductive aW (H:Int->Int->Prop):Int->Int->Int->Nat->List qu->Prop
 |nil (up lo hi:Int) (b:Nat) (h:lo<=hi):aW H up lo hi b []
 |cons (up lo hi:Int) (b:Nat) (x:qu) (qy rest:List qu) (hu:x.up=up) (h1:lo<=x.span.qO) (h2:x.span.qO<=x.span.to) (hH: ∀y∈qy,H x.n y.n)
   (hk:aW H (b:Int) x.span.qO x.span.to (b+1) qy) (hr:aW H up x.span.to hi (b+1+qy.length) rest):aW H up lo hi b (x::(qy++rest))
theorem aW.le{H:Int->Int->Prop}{up lo hi:Int}{b:Nat}{l:List qu}(h:aW H up lo hi b l):lo<=hi:=by
 induction h with
 |nil _ _ _ _ h=>exact h
 |cons _ _ _ _ _ _ _ _ h1 h2 _ _ _ _ ih=>omega
theorem aW.mono{H:Int->Int->Prop}{up lo hi:Int}{b:Nat}{l:List qu}(h:aW H up lo hi b l){vq:Int}(hh:hi<=vq):aW H up lo vq b l:=by
 induction h with
 |nil up lo hi b h=>exact .nil _ _ _ _ (by omega)
 |cons up lo hi b x qy rest hu h1 h2 hH hk _ _ ih=>exact .cons up lo vq b x qy rest hu h1 h2 hH hk (ih hh)
theorem aW.low{H:Int->Int->Prop}{up lo hi:Int}{b:Nat}{l:List qu}(h:aW H up lo hi b l){lo' :Int}(hh:lo' <=lo):aW H up lo' hi b l:=by
 cases h with
 |nil up lo hi b h=>exact .nil _ _ _ _ (by omega)
 |cons up lo hi b x qy rest hu h1 h2 hH hk hr=>exact .cons up lo' hi b x qy rest hu (by omega) h2 hH hk hr
theorem aW.Uk{H:Int->Int->Prop}{up lo hi:Int}{b:Nat}{l:List qu}(h:aW H up lo hi b l)(x:qu)(hu:x.up=up)(h1:x.span.qO=hi)(h2:x.span.to=hi):aW H up lo hi b (l++[x]):=by
 induction h with
 |nil up lo hi b h=>exact .cons up lo hi b x [] [] hu (by omega) (by omega) (by simp) (.nil _ _ _ _ (by omega)) (.nil _ _ _ _ (by omega))
 |cons up lo hi b y qy rest hu' h1' h2' hH hk _ _ ih=>
  have:=aW.cons up lo hi b y qy (rest++[x]) hu' h1' h2' hH hk (ih hu h1 h2);simpa using this
def iy(P:List Pt)(j:Nat):Nat:=(P.take j).countP (fun x=>x.kind==1)
theorem iz{P:List Pt}{i:Nat}{x:Pt}(h:P[i]? =some x):iy P (i+1)=iy P i+if x.kind=1 then 1 else 0:=by
 obtain⟨hl,rfl⟩:=qG h;unfold iy;rw[List.take_succ_eq_append_getElem hl,List.countP_append];exact tW
section
variable {env:Sl qt} {lead unit:qa} {P:List Pt} {ds:List Int} {nm:List qa} {ns:List Int} {ts:List qa}
theorem TO(hP:Good P)(hM:uS P ns ts)(i:Nat)(t:qa)(hv:DE P ns ts i t):xH ((i:Int),env,lead,unit,P,ds,nm,ns,ts)=some (t,0,env,lead,unit,P,ds,nm,ns,ts):=by
 have hl:=hP.len;have wV:=hM.Kj;have hlen:=hM.len;obtain⟨x,b,hx,h1,h2,h3,h4⟩:=hv;have fD:=(qG hx).1;have UD:qi P (i:Int)=some x:=by rw[j8 fD];simpa[kU fD]using hx
 rw[xH.eq_1,UD];simp only[xe,z7];by_cases k1:x.kind=1
 ·have hL:=h1 k1;obtain⟨v,Qn,DS⟩:=Gr x.n ns ts (by omega) hlen;rcases DS with ⟨_,hn⟩|⟨k,t',rfl,hk,mF,hL'⟩
  ·obtain⟨k,a1,_⟩:=hL;exact absurd (qX a1) hn
  have:=hL.one hL';subst this;have BH:qi ts (k:Int)=some b:=by rw[j8 mF];simpa[kU mF]using hk
  exact tW
 have hb:=h2 k1;subst hb;rw[if_neg (by simp[k1])];cases ht:x.qJ
 ·rw[if_neg (by simp),h3 ht]
 obtain⟨l,hl⟩:=h4 ht;rw[if_pos rfl,hl];rfl
theorem Gh(hP:Good P)(hM:uS P ns ts){i:Nat}{x:Pt}{t:qa}(hx:P[i]? =some x)(hk:x.kind=1)(hd:x.xI=true)(hv:DE P ns ts i t){e:Nat}(he:x.end_=(e:Int))(ho:x.opts.l≠[]->e=i+1): ∃u,bT P ns ts (i+1) e u/\u.length<=t.length:=by
 obtain⟨y,b,h0,h1,_,h3,_⟩:=hv;rw[hx]at h0;cases h0;have ht:=h3 ((hP.ok x (qX hx)).dt hd);subst ht;rcases(hM.txt _ _ (h1 hk)).1 with ⟨_,h⟩|⟨d,e',y,a1,a2,a3,a4,a5,a6⟩
 ·exact absurd rfl (h x (qX hx) hk hd)
 have:d=i:=XB hP.un a1 hx a3 hd a4;subst this;rw[hx]at a1;cases a1;have:e' =e:=by omega
 subst this;rcases a6 with a6|a6
 ·rw[ho a6];exact⟨[],.nil _,Nat.zero_le _⟩
 exact⟨_,a6,xJ _⟩
structure FW (P:List Pt) (qk:Int) (i hi:Nat) (W:qa) (out:List qu) (z6:List Int) (QM:Int) (l:List qu) (pl:List Int):Prop where
 GU:pl.length=z6.length
 tB: ∀j,j<i->pl[j]? =z6[j]?
 BM:aW (Holds P) QM qk (qk+W.length) out.length l
 mem: ∀y∈l,∃(j:Nat)(p:Pt),i<=j/\j<hi/\P[j]? =some p/\p.kind=1/\p.n=y.n/\p.qP=y.qP/\p.opts=y.opts
 len:l.length+iy P i<=iy P hi
theorem PC(hP:Good P)(hM:uS P ns ts){up:Int}{i hi:Nat}(hc:bu P up i hi): ∀(qk:Int)(W:qa)(out:List qu)(z6:List Int)(QM:Int),bT P ns ts i hi W->0<=qk->qk+W.length<=65536->hi<=P.length->z6.length=P.length->out.length+hi<=P.length+i->
  ((up= -1/\QM= -1)\/ ∃u:Nat,up=u/\u<i/\z6[u]? =some QM)->
  qB (qY ((hi:Int),qk,(i:Int),env,lead,unit,out,z6,P,ds,nm,ns,ts)) (fun v=> ∃l pl,v=(qk+W.length,env,lead,unit,out++l,pl,P,ds,nm,ns,ts)/\FW P qk i hi W out z6 QM l pl):=by
 have hPl:=hP.len;induction hc with
 |nil up i=>
  intro qk W out z6 QM hR h0 h1 hhi sI Ef Xo;have hT0:W=[]:=by
   cases hR with
   |nil=>rfl
   |cons _ e _ x t u hx he _ hr=>
    have h3:=(hP.end_ hx).1;have h4: ∀{a b:Nat}{t:qa},bT P ns ts a b t->a<=b:=by
     intro a b t h;induction h with
     |nil=>omega
     |cons a e b x t u hx he _ _ ih=>have:=(hP.end_ hx).1;omega
    have:=h4 hr;omega
  subst hT0;rw[qY.eq_1,if_neg (by simp)];exact .ret ⟨[],z6,by simp,rfl,fun _ _=>rfl,.nil _ _ _ _ (by simp),by simp,by simp⟩
 |cons up i e hi x hx hu he xB hle hk hd ho hr UG XJ=>
  intro qk W out z6 QM hR h0 h1 hhi sI Ef Xo;have fD:=(qG hx).1;have UD:qi P (i:Int)=some x:=by rw[j8 fD];simpa[kU fD]using hx
  obtain⟨t,u,hTu,hv,hru⟩: ∃t u,W=t++u/\DE P ns ts i t/\bT P ns ts e hi u:=by
   cases hR with
   |nil=>omega
   |cons _ e' _ y t u hy hye hv hr2=>
    rw[hx]at hy;cases hy;have:e' =e:=by omega
    subst this;exact⟨t,u,rfl,hv,hr2⟩
  subst hTu;simp only[List.length_append]at h1;have BG:=iz hx;have hchi:iy P (i+1)<=iy P e:=by
   unfold iy;exact List.Sublist.countP_le (List.take_sublist_take_left (by omega))
  rw[qY.eq_1,if_pos (by simp;omega)];refine .go UD ?_;refine .go (TO hP hM i t hv) ?_;simp only;have ew:IntKind.i64.wrap (qk+(t.length:Int))=qk+t.length:=wr (by omega) (by omega);rw[ew];have behind: ∀(l:List qu)(pl:List Int),FW P qk i e t out z6 QM l pl->l.length<=e-i->
    qB (qi P (i:Int)>>=fun y=>qY ((hi:Int),qk+t.length,y.end_,env,lead,unit,out++l,pl,P,ds,nm,ns,ts)) (fun v=> ∃l pl,v=(qk+(t++u).length,env,lead,unit,out++l,pl,P,ds,nm,ns,ts)/\FW P qk i hi (t++u) out z6 QM l pl):=by
   intro l pl h SW;refine .go UD ?_;rw[he];refine(XJ (qk+t.length) u (out++l) pl QM hru (by omega) (by omega) hhi (h.GU.trans sI) (by simp;omega) ?_).mono fun v hv=>?_
   ·rcases Xo with Xo|⟨w,w1,w2,w3⟩
    ·exact .inl Xo
    exact .inr ⟨w,w1,by omega,by rw[h.tB w w2];exact w3⟩
   obtain⟨l2,pl2,rfl,q⟩:=hv;refine⟨l++l2,pl2,by simp[Int.add_assoc],q.GU.trans h.GU,fun j hj=>(q.tB j (by omega)).trans (h.tB j hj), ?_, ?_, ?_⟩
   ·have h2:=q.BM;have h1:=h.BM;have app: ∀{up lo hi:Int}{b:Nat}{l:List qu},aW (Holds P) up lo hi b l-> ∀{BI:Int}{r:List qu},aW (Holds P) up hi BI (b+l.length) r->aW (Holds P) up lo BI b (l++r):=by
     intro up lo hi b l hl;induction hl with
     |nil up lo hi b h=>intro BI r hr;simpa using hr.low h
     |cons up lo hi b x qy rest hu h1 h2 hH hk _ _ ih=>
      intro BI r hr;have e1:b+(x::(qy++rest)).length=b+1+qy.length+rest.length:=by simp;omega
      rw[e1]at hr;have:=aW.cons up lo BI b x qy (rest++r) hu h1 h2 hH hk (ih hr);simpa using this
    simp only[List.length_append]at h2;have:=app h1 h2;simpa[Int.add_assoc]using this
   ·intro y hy;rcases List.mem_append.1 hy with hy|hy
    ·obtain⟨j,p,j1,j2,j3⟩:=h.mem y hy;exact⟨j,p,j1,by omega,j3⟩
    obtain⟨j,p,j1,j2,j3⟩:=q.mem y hy;exact⟨j,p,by omega,j2,j3⟩
   have:=q.len;have:=h.len;simp only[List.length_append];omega
  by_cases k1:x.kind=1
  ·rw[if_pos k1]at BG;rw[if_pos (by simp[k1])];have stop: ∀(S:qu),S.up=QM->S.span.qO=qk->S.span.to=qk+t.length->S.n=x.n->S.qP=x.qP->S.opts=x.opts->
     qB (qi z6 (i:Int)>>=fun _=>if qg (out.length+1) 200=true then
      if x.xI=true then
       zs (IntKind.i64.wrap ((i:Int)+1),x.end_,qk,env,lead,unit,out++[S],z6.set (i:Int).toNat (out.length:Int),P,ds,nm,ns,ts)>>=fun v=>
       qi v.2.2.2.2.2.2.1 (i:Int)>>=fun y=>
       qY ((hi:Int),qk+t.length,y.end_,v.2.1,v.2.2.1,v.2.2.2.1,v.2.2.2.2.1,v.2.2.2.2.2.1,v.2.2.2.2.2.2.1,v.2.2.2.2.2.2.2.1,v.2.2.2.2.2.2.2.2.1,v.2.2.2.2.2.2.2.2.2.1,v.2.2.2.2.2.2.2.2.2.2)
      else
       qi P (i:Int)>>=fun y=>qY ((hi:Int),qk+t.length,y.end_,env,lead,unit,out++[S],z6.set (i:Int).toNat (out.length:Int),P,ds,nm,ns,ts)
      else none) (fun v=> ∃l pl,v=(qk+(t++u).length,env,lead,unit,out++l,pl,P,ds,nm,ns,ts)/\FW P qk i hi (t++u) out z6 QM l pl):=by
    intro S s1 s2 s3 s4 s5 s6;refine .bind .get fun _ _=>?_;refine .zm (by simp only[qg,zB,decide_eq_true_eq];omega) ?_;rw[Int.toNat_natCast];have nO: ∀j,j<i->(z6.set i (out.length:Int))[j]? =z6[j]? :=fun j hj=>by rw[List.getElem?_set];rw[if_neg (by omega)]
    cases G3:x.xI
    ·rw[if_neg (by simp)];refine behind [S] _ ⟨by simp,nO, ?_, ?_,by simp;omega⟩ (by simp;omega)
     ·exact .cons QM qk _ out.length S [] [] s1 (by omega) (by omega) (by simp) (.nil _ _ _ _ (by omega)) (.nil _ _ _ _ (by omega))
     intro y hy;simp only[List.mem_singleton]at hy;subst hy;exact⟨i,x,xJ _,xB,hx,k1,s4.symm,s5.symm,s6.symm⟩
    rw[if_pos rfl];obtain⟨w,w1,w2⟩:=Gh hP hM hx k1 G3 hv he ho;have Tk:=UG qk w (out++[S]) (z6.set i (out.length:Int)) (out.length:Int) w1 h0 (by omega) (by omega) (by simpa using sI) (by simp;omega) (.inr ⟨i,rfl,by omega,List.getElem?_set_self (by omega)⟩);have hk3:qB (zs (((i+1:Nat):Int),x.end_,qk,env,lead,unit,out++[S],z6.set i (out.length:Int),P,ds,nm,ns,ts)) (fun v=> ∃l pl,v=(qk+w.length,env,lead,unit,out++[S]++l,pl,P,ds,nm,ns,ts)/\FW P qk (i+1) e w (out++[S]) (z6.set i (out.length:Int)) (out.length:Int) l pl):=by
     rw[zs.eq_1,he];exact .bind Tk fun v hv=> .ret hv
    rw[wr (n:=(i:Int)+1) (by omega) (by omega),show((i:Int)+1)=((i+1:Nat):Int) by omega];refine .bind hk3 fun v hv=>?_;obtain⟨l,pl,rfl,q⟩:=hv;have e1:out++[S]++l=out++(S::l):=by simp
    simp only[e1];have hql:=q.len;have lY:iy P e<=iy P (i+1)+(e-(i+1)):=by
     have: ∀d,iy P (i+1+d)<=iy P (i+1)+d:=by
      intro d;induction d with
      |zero=>simp
      |succ d ih=>
       by_cases DL:i+1+d<P.length
       ·have:=iz (kU DL);rw[show i+1+(d+1)=i+1+d+1 by omega,this];split<;>omega
       have e2:iy P (i+1+(d+1))=iy P (i+1+d):=by unfold iy;rw[List.take_of_length_le (by omega),List.take_of_length_le (by omega)]
       omega
     have:=this (e-(i+1));rw[show i+1+(e-(i+1))=e by omega]at this;exact this
    refine behind (S::l) pl ⟨by simpa using q.GU,fun j hj=>(q.tB j (by omega)).trans (nO j hj), ?_, ?_,by simp;omega⟩ (by simp;omega)
    ·have SV:aW (Holds P) (out.length:Int) S.span.qO S.span.to (out.length+1) l:=by
      rw[s2,s3];have:=q.BM;simp only[List.length_append,List.length_cons,List.length_nil]at this;exact this.mono (by omega)
     have:=aW.cons QM qk (qk+t.length) out.length S l [] s1 (by omega) (by omega) (fun y hy=>?_) SV (.nil _ _ _ _ (by omega))
     ·simpa using this
     obtain⟨j,p,j1,j2,j3,j4,j5,_⟩:=q.mem y hy;rw[s4];exact⟨i,j,x,p,hx,k1,G3,rfl,by omega,by omega,j3,j4,j5⟩
    intro y hy;rcases List.mem_cons.1 hy with rfl|hy
    ·exact⟨i,x,xJ _,xB,hx,k1,s4.symm,s5.symm,s6.symm⟩
    obtain⟨j,p,j1,j2,j3⟩:=q.mem y hy;exact⟨j,p,by omega,j2,j3⟩
   rcases Xo with ⟨u1,u2⟩|⟨w,w1,w2,w3⟩
   ·rw[if_neg (by simp;omega)];exact stop _ u2.symm rfl rfl rfl rfl rfl
   rw[if_pos (by simp;omega)];have hwl:=(qG w3).1;refine .go (a:=QM) (by rw[hu,w1,j8 hwl];simpa[kU hwl]using w3) ?_;exact stop _ rfl rfl rfl rfl rfl rfl
  rw[if_neg k1]at BG;rw[if_neg (by simp[k1])];have hde:e=i+1:=hd ((hP.ok x (qX hx)).other k1).1;have:=behind [] z6 ⟨rfl,fun _ _=>rfl,.nil _ _ _ _ (by omega),by simp,by simp;omega⟩ (by simp);simpa using this
end
end Go.Proofs.YtmllebdamdnhoaaGreat
