/-
  Edits are laid, from the last to the first: the document's Lead.
-/
import Derived.Test.YtnojdepmnnebnaaGreatQam
import Derived.Test.YtnojdepmnnebnaaGreatQal
open Go.IntKind renaming i64->q?
open Go.Proofs.YtnojdepmnnebnaaGreat.qJ renaming get->v_
open Int renaming toNat_natCast->d?,le_refl->h!,le_trans->q12
open List renaming length_cons->h?,mem_append->m?,length_append->t?,map_cons->s?,mem_singleton->a?,length_nil->e?,mem_of_mem_take->W?,getElem?_take_of_lt->V?,mem_cons->U?,nil_append->F?,map_nil->L?,sum_cons->y!,pairwise_iff_getElem->b!,mem_or_eq_of_mem_set->l!,map_append->Y!,countP_cons->O!,drop_eq_getElem_cons->x_,length_map->s_,take_append_drop->f_,isEmpty_iff->q1j
open Nat renaming strongRecOn->p?,add_sub_cancel->K_
open Option renaming bind_eq_some_iff->R!
set_option linter.unusedSimpArgs false
set_option linter.unusedVariables false
set_option maxHeartbeats 1000000
namespace Go.Proofs.YtnojdepmnnebnaaGreat
open Go Go.Gm
theorem YS(fs:Sl zt)(hl:fs.l.length<=1099511627776):qJ (dM fs) (fun c=>c=true-> ∀f∈fs.l,0<=f.n):=by
 have key: ∀(r:List zt)(k:Nat),fs.l.drop k=r->qJ (xM (fs,(k:Int))) (fun v=>(v= .inl true->False)/\(v= .inr ()-> ∀f∈r,0<=f.n)):=by intro r;induction r with|nil=>intro k hk;rw[xM.eq_1,if_neg (by simpa using yu hk)];exact .ret ⟨z?,z?⟩|cons x r ih=>(intro k hk;obtain⟨a1,a2,a3,a4⟩:=wS hk;have ih:=ih (k+1) a3;have next:0<=x.n->qJ (xM (fs,((k+1:Nat):Int))) (fun v=>(v= .inl true->False)/\(v= .inr ()-> ∀f∈x::r,0<=f.n)):=by intro hx;refine ih.mono fun v h=>⟨h.1,fun hw z hz=>?_⟩;rcases U?.1 hz with rfl|hz;exact hx;exact h.2 hw z hz);(have prev: ¬(k:Int)=0-> ∀{f:zt->Option (Bool⊕Unit)}{Q:Bool⊕Unit->Prop},(∀ y,qJ (f y) Q)->qJ (qh fs.l (q?.wrap ((k:Int)-1))>>=f) Q:=by intro h f Q hf;(repeat (first|(rw [qH];rotate_left;omega;omega)|(rw [xI];rotate_left;omega;omega)));exact .bind v_ fun y _=>hf y);rw[xM.eq_1,if_pos (by simpa using a1),ll o? a1];refine .go a2 ?_;(repeat' (first|exact .ret ⟨by simp,by simp⟩|(refine .tI ?_ ?_<;>intro hT)|(refine prev ‹_› fun y=>?_)|refine .bind (WC _) fun v _=>?_));all_goals exact next (by omega)
 unfold dM;exact tW
theorem YT(f:zn)(hw:vK f<=1099511627776):qJ (dN f) (fun c=>c=true->WF f.rx):=by have hl:=xc ZV f.wy.l;unfold vK at hw;unfold dN;have:= @XA;have:= @YS;exact tW
def Qc:qG:=qG.mk (0:Int) ([]:qa) false (⟨true,[]⟩:(Sl qV)) (0:Int) (0:Int) false (⟨true,[]⟩:(Sl qG))
def dg:zn:=zn.mk Qc (⟨true,([]:List zt)⟩:(Sl zt)) false false
theorem AW(x:qG):qJ (mS (x,Qc)) (fun _=>True):=by rw[mS.eq_1];refine .tI ?_ ?_<;>intro hT;exact .ret trivial;have h:=hT;simp only[Qc,e?]at h;have h1:x.rows.l.length=0:=o?;have h2:x.qz.l.length=0:=o?;refine .go (a:= .inr ()) (by rw[th.eq_1];simp[h1]) ?_;refine .go (a:= .inr ()) (by rw[gG.eq_1];simp[h2]) ?_;exact .ret trivial
theorem XO(f:zn):qJ (ui f dg) (fun _=>True):=by unfold ui;refine .bind (AW f.rx) fun v _=>?_;refine .tI ?_ ?_<;>intro hT;exact .ret trivial;have h:=hT;simp only[dg,e?]at h;have h1:f.wy.l.length=0:=o?;refine .go (a:= .inr ()) (by rw[hZ.eq_1];simp[h1]) ?_;exact .ret trivial
inductive WS:qD->Prop
 |mk (x:qD) (hk: ∀y∈x.qz.l,WS y) (h0:x.kind=0->x.qz.l=[]) (h2:x.kind=2->x.has=false/\x.qL=false/\x.qz.l=[]/\0<x.opts.l.length)
   (h1:x.kind=1\/x.kind=3->x.opts.l=[]/\(x.has=true->x.qL=false)/\(x.has=false->x.qz.l=[])) (hd:0<=x.kind/\x.kind<=3)
   (hn:x.kind=1\/x.kind=2->0<=x.n/\x.n<=9999):WS x
def Ku(l:Sl qD):Prop:= ∀x∈l.l,WS x
theorem snS_ind{P:Sl qD->Prop}(h: ∀l,(∀ x∈l.l,P x.qz)->P l): ∀l,P l:=by
 have key: ∀n(l:Sl qD),qO (l.l.map pU)<n->P l:=by intro n;induction n with|zero=>intro l hl;omega|succ n ih=>intro l hl;have:= @xP;have:= @nJ;exact tW
 exact fun l=>key _ l (Nat.lt_succ_self _)
abbrev ej(l:Sl qD):Prop:=qO (l.l.map pU)<=1099511627775
theorem TO{l:Sl qD}(h:ej l):l.l.length<=1099511627775:=by have:=xc ct l.l;unfold ej at h;omega
theorem Ww{l:Sl qD}(h:ej l){x:qD}(hx:x∈l.l):pU x<=1099511627775:=by have:=xP (f:=pU) hx;unfold ej at h;omega
theorem NA{l:Sl qD}(h:ej l){x:qD}(hx:x∈l.l):ej x.qz:=by have:=Ww h hx;have:=nJ x;unfold ej;omega
theorem VZ(s:qa)(hs:s.length<=1099511627776): ∀(r:qa)(k:Nat),s.drop k=r->qJ (xW (s,(k:Int))) (fun _=>True):=by intro r;induction r with|nil=>intro k hk;rw[xW.eq_1,if_neg (by simpa using yu hk)];exact .ret trivial|cons b r ih=>intro k hk;obtain⟨a1,a2,a3,a4⟩:=wS hk;have h:=ih (k+1) a3;rw[xW.eq_1,if_pos (by simpa using a1),ll o? a1];refine .go a2 ?_;refine .bind (tN b) fun v hv=>?_;repeat' (first|exact h|exact .ret trivial|(refine .tI ?_ ?_<;>intro hT)|refine .bind (mc b) fun w _=>?_)
theorem TX(s:qa)(hs:s.length<=1099511627776):qJ (jl s) (fun _=>True):=by unfold jl;refine .tI ?_ ?_<;>intro hT;exact .ret trivial;refine .bind (VZ s hs s 0 rfl) fun v hv=>?_;rcases v with v|v<;>exact .ret trivial
theorem S5(x:qD)(hw:pU x<=1099511627775)(ih:qJ (bp x.qz) (fun c=>c=true->Ku x.qz)):
  qJ (kA x) (fun c=>c=true->x.opts.l=[]/\(x.has=true->x.qL=false)/\(x.has=false->x.qz.l=[])/\Ku x.qz):=by
 have hx:=nJ x;rw[kA.eq_1];refine .tI ?_ ?_<;>intro hT;exact .ret z?;have h1:x.opts.l=[]:=len_nil o?;refine .tI ?_ ?_<;>intro hT;have hh:=hT;refine .tI ?_ ?_<;>intro hT;exact .ret z?;have ht:=hT;refine .bind (XO x.qR) fun v _=>?_;refine .tI ?_ ?_<;>intro hT;refine .bind ih fun v hv=>?_;exact .ret fun h=>⟨h1,fun _=>ht,fun h=>(by rw[hh]at h;cases h),hv h⟩;exact .ret z?;have hh:=hT;refine .tI ?_ ?_<;>intro hT;exact .ret z?;have hk:x.qz.l=[]:=len_nil o?;have hka:Ku x.qz:=fun y hy=>by rw[hk]at hy;cases hy
 refine .tI ?_ ?_<;>intro hT;refine .bind (YT x.qR o?) fun v hv=>?_;exact .ret fun _=>⟨h1,fun h=>(by rw[hh]at h;cases h),fun _=>hk,hka⟩;refine .bind (XO x.qR) fun v _=>?_;refine .tI ?_ ?_<;>intro hT;refine .bind ih fun v hv=>?_;exact .ret fun _=>⟨h1,fun h=>(by rw[hh]at h;cases h),fun _=>hk,hka⟩;exact .ret z?
theorem FY: ∀l,ej l->qJ (bp l) (fun c=>c=true->Ku l):=by
 apply snS_ind (P:=fun l=>ej l->qJ (bp l) (fun c=>c=true->Ku l));intro l ih0 hw;have hl:=TO hw;have key: ∀(r:List qD)(k:Nat),l.l.drop k=r->qJ (zA (l,(k:Int))) (fun v=>(v= .inl true->False)/\(v= .inr ()-> ∀y∈r,WS y)):=by
  intro r;induction r with
   |nil=>intro k hd;rw[zA.eq_1,if_neg (by simpa using yu hd)];exact .ret ⟨z?,z?⟩
   |cons x r ih=>
    intro k hd;obtain⟨a1,a2,a3,a4⟩:=wS hd;have hx:=nJ x;have hxw:=Ww hw a4;have lO:=S5 x hxw (ih0 x a4 (NA hw a4));have ih:=ih (k+1) a3;have next:WS x->qJ (zA (l,((k+1:Nat):Int))) (fun v=>(v= .inl true->False)/\(v= .inr ()-> ∀y∈x::r,WS y)):=by intro hx;refine ih.mono fun v h=>⟨h.1,fun hw z hz=>?_⟩;rcases U?.1 hz with rfl|hz;exact hx;exact h.2 hw z hz
    have stop: ∀{f:Bool->Option (Bool⊕Unit)},(∀ v,(v=true->x.opts.l=[]/\(x.has=true->x.qL=false)/\(x.has=false->x.qz.l=[])/\Ku x.qz)->qJ (f v) (fun v=>(v= .inl true->False)/\(v= .inr ()-> ∀y∈x::r,WS y)))->
      qJ (kA x>>=f) (fun v=>(v= .inl true->False)/\(v= .inr ()-> ∀y∈x::r,WS y)):=fun hf=>qJ.bind lO hf
    have prev: ¬(k:Int)=0-> ∀{f:qD->Option (Bool⊕Unit)},(∀ y,qJ (f y) (fun v=>(v= .inl true->False)/\(v= .inr ()-> ∀y∈x::r,WS y)))->qJ (qh l.l (q?.wrap ((k:Int)-1))>>=f) (fun v=>(v= .inl true->False)/\(v= .inr ()-> ∀y∈x::r,WS y)):=by intro h f hf;(repeat (first|(rw [qH];rotate_left;omega;omega)|(rw [xI];rotate_left;omega;omega)));exact .bind v_ fun y _=>hf y
    have w1:x.kind=1->0<=x.n->x.n<=9999->(x.opts.l=[]/\(x.has=true->x.qL=false)/\(x.has=false->x.qz.l=[])/\Ku x.qz)->WS x:=fun a b c d=>
     .mk x d.2.2.2 (fun h=>o?) (fun h=>o?) (fun _=>⟨d.1,d.2.1,d.2.2.1⟩) o? (fun _=>⟨b,c⟩)
    have w3:x.kind=3->(x.opts.l=[]/\(x.has=true->x.qL=false)/\(x.has=false->x.qz.l=[])/\Ku x.qz)->WS x:=fun a d=>
     .mk x d.2.2.2 (fun h=>o?) (fun h=>o?) (fun _=>⟨d.1,d.2.1,d.2.2.1⟩) o? (fun h=>o?)
    have w0:x.kind=0->x.qz.l=[]->WS x:=fun a b=>
     .mk x (by simp[b]) (fun _=>b) (fun h=>o?) (fun h=>o?) o? (fun h=>o?)
    have w2:x.kind=2->x.qz.l=[]->x.has=false->x.qL=false->0<x.opts.l.length->0<=x.n->x.n<=9999->WS x:=fun a b c d e f g=>
     .mk x (by simp[b]) (fun h=>o?) (fun _=>⟨c,d,b,e⟩) (fun h=>o?) o? (fun _=>⟨f,g⟩)
    have hname:=TX x.text o?;rw[zA.eq_1,if_pos (by simpa using a1),ll o? a1];refine .go a2 ?_;(repeat' (first|exact .ret ⟨by simp,by simp⟩|(refine .tI ?_ ?_<;>intro hT)|(refine prev ‹_› fun y=>?_)|refine .bind (XO x.qR) fun v _=>?_|refine .bind hname fun v _=>?_|refine stop fun v hv=>?_));(all_goals refine next ?_);all_goals first|exact w1 (by omega) (by omega) (by omega) (by simp_all)|exact w3 (by omega) (by simp_all)|exact w0 (by omega) (len_nil (by omega))|exact w2 (by omega) (len_nil (by omega)) (by simp_all) (by simp_all) (by omega) (by omega) (by omega)
 rw[bp.eq_1];refine .bind (key l.l 0 rfl) fun v hv=>?_;rcases v with v|v;(exact .ret fun h=>by subst h;exact absurd rfl hv.1);exact .ret fun _=>hv.2 rfl
theorem Yi(l:Sl qD)(hw:qO (l.l.map pU)<=100000000):qJ (dP l) (fun c=>c=true->Ku l):=by unfold dP;refine .bind (BW _ l (jx _) hw) fun v _=>?_;refine .tI ?_ ?_<;>intro hT;refine .bind (FY l (by unfold ej;omega)) fun v hv=>?_;exact .ret hv;exact .ret z?
theorem Fs: ∀(m:Nat)(i:Int)(b:List UInt8),m=(b.length-i).toNat->0<=i->b.length<=1099511627776->qJ (kR (i,b)) (fun r=>r.length=b.length):=by intro m;induction m using p? with|_ m ih=>intro i b hm h0 hB;rw[kR.eq_1];exact tW
theorem Zb(s:qa)(hs:s.length<=1099511627776):qJ (gD s) (fun r=>r.length=s.length):=by unfold gD;have:= @Fs;exact tW
theorem Sh: ∀(m:Nat)(i:Int)(b:List UInt8),m=(b.length-i).toNat->0<=i->b.length<=1099511627776->qJ (vq (i,b)) (fun r=>r.length=b.length):=by intro m;induction m using p? with|_ m ih=>intro i b hm h0 hB;rw[vq.eq_1];exact tW
theorem MU(s:qa)(hs:s.length<=1099511627776):qJ (cO s) (fun r=>r.length=s.length):=by unfold cO;have:= @Sh;exact tW
theorem Zy(c:qa):qJ (tO c) (fun _=>True):=by unfold tO;refine .tI ?_ ?_<;>intro hT;refine .bind .get fun b hb=>?_;refine .bind (tN b) fun v _=>?_;refine .tI ?_ ?_<;>intro hT;exact .ret trivial;refine .bind (mc b) fun v _=>?_;refine .tI ?_ ?_<;>intro hT;exact .ret trivial;exact .ret trivial;exact .ret trivial
theorem Wo(rows:Sl qV)(hl:rows.l.length<=1099511627776)(c:qa):qJ (fu rows c) (fun _=>True):=by
 have key: ∀(r:List qV)(k:Nat),rows.l.drop k=r->qJ (bK (rows,c,(k:Int))) (fun _=>True):=by intro r;induction r with|nil=>intro k hk;rw[bK.eq_1,if_neg (by simpa using yu hk)];exact .ret trivial|cons x r ih=>intro k hk;obtain⟨a1,a2,a3,a4⟩:=wS hk;have ih:=ih (k+1) a3;rw[bK.eq_1,if_pos (by simpa using a1),ll o? a1];exact tW
 unfold fu;refine .bind (key rows.l 0 rfl) fun v _=>?_;rcases v with v|v<;>exact .ret trivial
theorem Fv(rows:Sl qV)(hl:rows.l.length<=1099511627776)(n f:Bool)(c:qa)(hc:c.length<=1099511627776):qJ (ij rows n f c) (fun _=>True):=by unfold ij;refine .bind (Wo rows hl c) fun v _=>?_;refine .tI ?_ ?_<;>intro hT;refine .bind (Zb c hc) fun d _=>?_;refine .bind (Wo rows hl d) fun w _=>?_;refine .tI ?_ ?_<;>intro hT;exact .ret trivial;refine .bind (MU c hc) fun d _=>?_;refine .bind (Wo rows hl d) fun w _=>?_;refine .tI ?_ ?_<;>intro hT;exact .ret trivial;exact .ret trivial;exact .ret trivial
structure mF (s:qa) (n:Nat) (b:qf):Prop where
 hs:s.length<=1048576
 cs:b.cs.l.length=n
 clen: ∀c∈b.cs.l,c.length<=s.length
 wz:b.wz.l.length=n+1
 mono:b.wz.l.Pairwise (· < ·)
 Qr: ∀x∈b.wz.l,0<=x/\x<=s.length
 fuel:0<=b.fuel/\b.fuel<=20000
 hn:n<=1048576
structure cw (b c:qf):Prop where
 cs:c.cs=b.cs
 wz:c.wz=b.wz
 fold:c.fold=b.fold
 fuel:c.fuel<=b.fuel
theorem cw.refl(b:qf):cw b b:=⟨rfl,rfl,rfl,h! _⟩
theorem cw.trans{a b c:qf}(h1:cw a b)(h2:cw b c):cw a c:=⟨h2.cs.trans h1.cs,h2.wz.trans h1.wz,h2.fold.trans h1.fold,q12 h2.fuel h1.fuel⟩
def UM(s:qa)(x:qn):Prop:=x.qB= -1\/(0<=x.qB/\x.qB<=x.to/\x.to<=s.length)
structure ph (s:qa) (g:Nat) (p:Sl qn):Prop where
 len:p.l.length=g
 ok: ∀x∈p.l,UM s x
inductive B9 (g:Nat) (j:Int):Option qe->Prop
 |none:B9 g j none
 |Jj (k:qe) (hk:k.kind=1) (g0:0<=k.g) (g1:k.g<g) (f0:0<=k.qB) (f1:k.qB<=j) (h:B9 g j k.rest):B9 g j (some k)
 |again (k:qe) (hk:k.kind=2) (hx:WF k.x) (hl:kO k.x) (h7:k.x.kind=7) (g0:0<=k.g) (g1:k.g+db k.x<=g) (h:B9 g j k.rest):B9 g j (some k)
 |hold (k:qe) (hk:k.kind=0) (hx:WF k.x) (hl:kO k.x) (g0:0<=k.g) (g1:k.g+db k.x<=g) (h:B9 g j k.rest):B9 g j (some k)
theorem B9.oR{g:Nat}{i j:Int}(EF:i<=j){k:Option qe}(h:B9 g i k):B9 g j k:=by induction h with|none=>exact .none|Jj k hk g0 g1 f0 f1 _ ih=>exact .Jj k hk g0 g1 f0 o? ih|again k hk hx hl h7 g0 g1 _ ih=>exact .again k hk hx hl h7 g0 g1 ih|hold k hk hx hl g0 g1 _ ih=>exact .hold k hk hx hl g0 g1 ih
mutual
def kW:qe->Nat
 |⟨kd,x,_,_,_,r⟩=>(if kd=0 then ru x else 1)+kWO r
def kWO:Option qe->Nat
 |none=>0
 |some k=>kW k
end
theorem q02(k:qe):kWO (some k)=(if k.kind=0 then ru k.x else 1)+kWO k.rest:=by cases k;simp[kW,kWO]
section
variable {s:qa} {n:Nat}
theorem Ko{b:qf}(hb:mF s n b){i:Int}(h0:0<=i)(h1:i<=n):qJ (qh b.wz.l i) (fun x=>b.wz.l[i.toNat]? =some x/\0<=x/\x<=s.length):=
 (v_ h0 (by have:=hb.wz;omega)).mono fun x hx=>⟨hx.1,hb.Qr x hx.2⟩
theorem R4{l:List Int}(hm:l.Pairwise (· < ·)){i j:Nat}{a c:Int}(hi:l[i]? =some a)(hj:l[j]? =some c)(h:i<j):a<c:=by obtain⟨i1,rfl⟩:=qF hi;obtain⟨j1,rfl⟩:=qF hj;exact b!.1 hm i j i1 j1 h
theorem J6{l:List Int}(hm:l.Pairwise (· < ·)){i j:Nat}{a c:Int}(hi:l[i]? =some a)(hj:l[j]? =some c)(h:i<=j):a<=c:=by have:= @R4;exact tW
theorem Eg(x:qG)(hx:kO x)(i:Int)(h0:0<=i)(h1:i<=n)(b:qf)(hb:mF s n b):qJ (nV x i b) (fun r=>0<=r.1/\(r.2=true->i+r.1<=n)):=by have hc:=hb.cs;have hn:=hb.hn;have hs:=hb.hs;have hxw:=yo x;have hrows:=xc sf x.rows.l;unfold kO at hx;unfold nV;refine .tI ?_ ?_<;>intro hT;exact .ret ⟨z?,fun _=>u?⟩;refine .tI ?_ ?_<;>intro hT;exact .ret ⟨z?,fun _=>u?⟩;refine .tI ?_ ?_<;>intro hT;{refine .tI ?_ ?_<;>intro hT;{(repeat (first|(rw [qH];rotate_left;omega;omega)|(rw [xI];rotate_left;omega;omega)));refine .bind .get fun c _=>?_;refine .bind (Zy c) fun v _=>?_;refine .tI ?_ ?_<;>intro hT;refine .bind .get fun c _=>?_;refine .bind (Zy c) fun v _=>?_;exact .ret ⟨z?,fun _=>u?⟩;exact .ret ⟨z?,fun _=>u?⟩};refine .tI ?_ ?_<;>intro hT;refine .bind .get fun c _=>?_;refine .bind (Zy c) fun v _=>?_;exact .ret ⟨z?,fun _=>u?⟩;exact .ret ⟨z?,fun _=>u?⟩};refine .tI ?_ ?_<;>intro hT;exact .ret ⟨z?,z?⟩;refine .bind .get fun c hcc=>?_;have Xw:=hb.clen c hcc.2;refine .tI ?_ ?_<;>intro hT;exact .ret ⟨z?,fun _=>u?⟩;refine .tI ?_ ?_<;>intro hT;refine .bind (Fv x.rows o? _ _ c o?) fun v _=>?_;exact .ret ⟨z?,fun _=>u?⟩;refine .tI ?_ ?_<;>intro hT;exact .ret ⟨z?,fun _=>u?⟩;refine .tI ?_ ?_<;>intro hT;refine .bind (Zb c o?) fun v _=>?_;refine .bind (Zb x.char o?) fun v _=>?_;exact .ret ⟨z?,fun _=>u?⟩;exact .ret ⟨z?,z?⟩
end
abbrev OnR:=Int×Sl qn×Bool×qf
structure PE (s:qa) (n g:Nat) (i:Int) (b:qf) (r:OnR):Prop where
 run:mF s n r.2.2.2
 oR:cw b r.2.2.2
 ok:r.2.2.1=true->i<=r.1/\r.1<=n/\ph s g r.2.1
theorem PE.mono{s:qa}{n g:Nat}{i j:Int}{b c:qf}{r:OnR}(h:PE s n g j c r)(EF:i<=j)(hl:cw b c):PE s n g i b r:=
 ⟨h.run,hl.trans h.oR,fun k=>⟨q12 EF (h.ok k).1,(h.ok k).2⟩⟩
theorem PE.fail{s:qa}{n g:Nat}{i:Int}{b:qf}(hb:mF s n b){e:Int}{p:Sl qn}:PE s n g i b (e,p,false,b):=⟨hb,.refl b,z?⟩
section
variable {s:qa} {n g:Nat}
structure UJ (s:qa) (n g:Nat) (k:Option qe) (i:Int) (parts:Sl qn) (b:qf):Prop where
 i0:0<=i
 i1:i<=n
 k:B9 g i k
 p:ph s g parts
 run:mF s n b
 g:g<=1000000000
def Bb(s:qa)(n g:Nat)(k:Option qe)(i:Int)(parts:Sl qn)(b:qf):Prop:=qJ (z8 (k,i,parts,b)) (PE s n g i b)
theorem Uv{p:Sl qn}(h:p.l.length=g)(hg:g<=1000000000):qg p.l.length 16=true:=by simp only[qg,zO,decide_eq_true_eq];omega
theorem ph.set{p:Sl qn}(h:ph s g p)(i:Nat){x:qn}(hx:UM s x)(b:Bool):ph s g (⟨b,p.l.set i x⟩:Sl qn) where
 len:=by simpa using h.len
 ok:=by intro y hy;rcases l! hy with hy|rfl;exact h.ok y hy;exact hx
theorem rR{o:Option OnR}{Q:OnR->Prop}(h:qJ o Q):qJ (o>>=fun v=>some (v.1,v.2.1,v.2.2.1,v.2.2.2)) Q:=qJ.bind h fun v hv=> .ret hv
theorem DV(k:qe)(i:Int)(parts:Sl qn)(b:qf)(h:UJ s n g (some k) i parts b)(hk:k.kind=0)(h7:k.x.kind≠7)
  (go: ∀k i parts c,UJ s n g k i parts c->c.fuel.toNat<b.fuel.toNat->Bb s n g k i parts c):qJ (uO (some k,i,parts,b)) (PE s n g i b):=by
 have hf:=h.run.fuel;have hg:=h.g;have hn:=h.run.hn;obtain⟨hx,hl,g0,g1,pH⟩:WF k.x/\kO k.x/\0<=k.g/\k.g+db k.x<=g/\B9 g i k.rest:=by cases h.k with|Jj _ h1=>omega|again _ h1=>omega|hold _ _ a b c d e=>exact⟨a,b,c,d,e⟩
 rw[uO.eq_1];refine .tI ?_ ?_<;>intro hT;exact .ret ⟨⟨h.run.hs,h.run.cs,h.run.clen,h.run.wz,h.run.mono,h.run.Qr,hf,hn⟩,⟨rfl,rfl,rfl,h! _⟩,z?⟩
 have hf0:0<b.fuel:=o?;refine .go rfl ?_;have hr:mF s n (qf.mk b.cs b.wz b.fold (q?.wrap (b.fuel-(1:Int))) b.out):=
  ⟨h.run.hs,h.run.cs,h.run.clen,h.run.wz,h.run.mono,h.run.Qr,by simp only;rw[qH o? o?];omega,hn⟩
 have VT:cw b (qf.mk b.cs b.wz b.fold (q?.wrap (b.fuel-(1:Int))) b.out):=⟨rfl,rfl,rfl,by simp only;rw[qH o? o?];omega⟩;have xJ:(qf.mk b.cs b.wz b.fold (q?.wrap (b.fuel-(1:Int))) b.out).fuel.toNat<b.fuel.toNat:=by simp only;rw[qH o? o?];omega
 have GI:=WZ k.x;refine .tI ?_ ?_<;>intro hT;(have h5:=hT;obtain⟨y,hy⟩:=hx.one o?;refine .go (a:=y) (by rw[hy];rfl) ?_;have EM:y∈k.x.qz.l:=by rw[hy];simp);rw[if_pos h5,hy]at GI;simp only[s?,L?,qO]at GI;rw[wr (n:=k.g+1) o? o?];refine rR ((go _ i parts _ ⟨h.i0,h.i1, ?_,h.p,hr,hg⟩ xJ).mono fun r hr=>hr.mono (h! _) VT);refine .hold _ rfl (hx.qz y EM) (md hl EM) u? u? ?_;exact .Jj _ rfl u? u? (by simp only;exact h.i0) u? pH;refine .tI ?_ ?_<;>intro hT;(have h6:=hT;obtain⟨y,hy⟩:=hx.one o?;refine .go (a:=y) (by rw[hy];rfl) ?_;have EM:y∈k.x.qz.l:=by rw[hy];simp);rw[if_neg o?,hy]at GI;simp only[s?,L?,qO]at GI;refine rR ((go _ i parts _ ⟨h.i0,h.i1, ?_,h.p,hr,hg⟩ xJ).mono fun r hr=>hr.mono (h! _) VT);exact .hold _ rfl (hx.qz y EM) (md hl EM) u? u? pH;refine .bind (Eg k.x hl i h.i0 h.i1 _ hr) fun v hv=>?_;refine .tI ?_ ?_<;>intro hT;exact .ret ⟨hr,VT,z?⟩;have TA:=hv.2 (by simpa using hT);have h0:=h.i0;rw[wr (n:=i+v.1) o? o?];refine rR ((go _ (i+v.1) parts _ ⟨o?,TA,pH.oR o?,h.p,hr,hg⟩ xJ).mono fun r hr=>hr.mono o? VT)
theorem Wk(k:qe)(i:Int)(parts:Sl qn)(b:qf)(h:UJ s n g (some k) i parts b)(hk:k.kind=0)(h0:k.x.kind≠0/\k.x.kind≠1/\k.x.kind≠7)
  (go: ∀k i parts c,UJ s n g k i parts c->c.fuel.toNat<b.fuel.toNat->Bb s n g k i parts c):Bb s n g (some k) i parts b:=by unfold Bb;rw[z8.eq_1];rw[if_neg z?];refine .go rfl ?_;rw[if_neg (by simp[hk]),if_neg (by simp[hk]),if_neg (by simp[h0.1]),if_neg (by simp[h0.2.1]),if_neg (by simp[h0.2.2])];exact rR (DV k i parts b h hk h0.2.2 go)
theorem F5(k:qe)(i:Int)(b:qf)(hl:kO k.x)(g0:0<=k.g)(g1:k.g+db k.x<=g)(hg:g<=1000000000):
  ∀(m:Nat)(j:Int)(p:List qn),m=(db k.x-j).toNat->0<=j->ph s g ⟨false,p⟩->qJ (vR (some k,i,j,b,p)) (fun r=>ph s g ⟨false,r⟩):=by intro m;induction m using p? with|_ m ih=>intro j p hm h0 hp;have cp:=hp.len;simp only at cp;rw[vR.eq_1];refine .go rfl ?_;refine .go (eT k.x hl) ?_;refine .tI ?_ ?_<;>intro hT;rw[wr (n:=k.g+j) o? o?,wr (n:=j+1) o? o?];refine .bind .get fun y _=>?_;exact ih _ o? (j+1) _ rfl o? (hp.set _ (.inl rfl) false);exact .ret hp
theorem time_tot(k:qe)(i:Int)(parts:Sl qn)(b:qf)(i0:0<=i)(i1:i<=n)(hx:WF k.x)(hl:kO k.x)(h7:k.x.kind=7)(g0:0<=k.g)(g1:k.g+db k.x<=g)(pH:B9 g i k.rest)(hp:ph s g parts)(hb:mF s n b)(hg:g<=1000000000)
  (go: ∀k i parts c,UJ s n g k i parts c->c.fuel.toNat<b.fuel.toNat->Bb s n g k i parts c):qJ (xC (some k,i,parts,b)) (PE s n g i b):=by
 rw[xC.eq_1];refine .zx (Uv hp.len hg) ?_;refine .bind (F5 (s:=s) k i b hl g0 g1 hg _ 0 parts.l rfl o? ⟨hp.len,hp.ok⟩) fun v hv=>?_;refine .go rfl ?_;obtain⟨y,hy⟩:=hx.one o?;refine .go (a:=y) (by rw[hy];rfl) ?_;have EM:y∈k.x.qz.l:=by rw[hy];simp
 have hyk:=hx.rep h7 y EM;have GI:=WZ k.x;rw[if_neg o?,hy]at GI;simp only[s?,L?,qO]at GI;refine rR (Wk _ i _ b ⟨i0,i1, ?_,hv,hb,hg⟩ rfl u? go);refine .hold _ rfl (hx.qz y EM) (md hl EM) g0 u? ?_;exact .again _ rfl hx hl h7 g0 g1 pH
theorem WX(k:qe)(i:Int)(parts:Sl qn)(b:qf)(i0:0<=i)(i1:i<=n)(hx:WF k.x)(hl:kO k.x)(h7:k.x.kind=7)(g0:0<=k.g)(g1:k.g+db k.x<=g)(pH:B9 g i k.rest)(hp:ph s g parts)(hb:mF s n b)(hg:g<=1000000000)
  (go: ∀k i parts c,UJ s n g k i parts c->c.fuel.toNat<b.fuel.toNat->Bb s n g k i parts c)
  (rest: ∀c,mF s n c->c.fuel<=b.fuel->Bb s n g k.rest i parts c):qJ (jS (some k,i,parts,b)) (PE s n g i b):=by
 have tm: ∀c,mF s n c->cw b c->qJ (xC (some k,i,parts,c)) (PE s n g i c):=fun c hc hbc=>
  time_tot k i parts c i0 i1 hx hl h7 g0 g1 pH hp hc hg fun k i p d h1 h2=>go k i p d h1 (by have:=hbc.fuel;have:=hc.fuel;have:=hb.fuel;omega)
 have t0:=tm b hb (.refl b);have r0:qJ (z8 (k.rest,i,parts,b)) (PE s n g i b):=rest b hb (h! _);have lazy: ∀{c:OnR->Prop}[DecidablePred c],qJ (z8 (k.rest,i,parts,b)>>=fun v=>if c v then some (v.1,v.2.1,v.2.2.1,v.2.2.2)else xC (some k,i,parts,v.2.2.2)>>=fun w=>some (w.1,w.2.1,w.2.2.1,w.2.2.2)) (PE s n g i b):=by intro c _;refine .bind r0 fun v hv=>?_;refine .ite (fun _=> .ret hv) fun _=>?_;exact rR ((tm v.2.2.2 hv.run hv.oR).mono fun r hr=>hr.mono (h! _) hv.oR)
 have eager: ∀{c:OnR->Prop}[DecidablePred c],qJ (xC (some k,i,parts,b)>>=fun v=>if c v then some (v.1,v.2.1,v.2.2.1,v.2.2.2)else z8 (k.rest,i,parts,v.2.2.2)>>=fun w=>some (w.1,w.2.1,w.2.2.1,w.2.2.2)) (PE s n g i b):=by intro c _;refine .bind t0 fun v hv=>?_;refine .ite (fun _=> .ret hv) fun _=>?_;exact rR ((rest v.2.2.2 hv.run hv.oR.fuel).mono fun r hr=>hr.mono (h! _) hv.oR)
 rw[jS.eq_1];refine .go rfl ?_;repeat' (first|exact rR t0|exact rR r0|exact lazy|exact eager|refine .ite (fun _=>?_) (fun _=>?_))
theorem seq_L1(k:qe)(i:Int)(parts:Sl qn)(b:qf)(hx:WF k.x)(hl:kO k.x)(g0:0<=k.g)(g1:k.g+qO (k.x.qz.l.map db)<=g)(hg:g<=1000000000):
  ∀(m:Nat)(rest:Option qe),m<=k.x.qz.l.length->B9 g i rest->
   qJ (yg (some k,i,parts,rest,k.g+(qO ((k.x.qz.l.take m).map db):Nat),(m:Int)-1,b)) (fun r=>B9 g i r/\kWO r=qO ((k.x.qz.l.take m).map ru)+kWO rest):=by intro m;have pf:=au k.x;unfold kO at hl;induction m with|zero=>intro rest _ hr;rw[yg.eq_1,if_neg z?];exact .ret ⟨hr,by simp[qO]⟩|succ m ih=>(intro rest hm hr;rw[yg.eq_1,if_pos z?];refine .go rfl ?_;have xJ:m<k.x.qz.l.length:=o?;have hy:k.x.qz.l[m]∈k.x.qz.l:=List.getElem_mem xJ;have e1:((m+1:Nat):Int)-1=(m:Int):=o?;rw[e1];refine .go (xd xJ) ?_;have hlk:kO k.x.qz.l[m]:=md (by unfold kO;omega) hy;refine .go (eT _ hlk) ?_;have e2:k.x.qz.l.take (m+1)=k.x.qz.l.take m++[k.x.qz.l[m]]:=by rw[List.take_succ_eq_append_getElem xJ]);(have e3:=kf db (k.x.qz.l.take m) k.x.qz.l[m];have e4:=kf ru (k.x.qz.l.take m) k.x.qz.l[m];have e5:qO (k.x.qz.l.map db)=qO ((k.x.qz.l.take m).map db)+qO ((k.x.qz.l.drop m).map db):=by conv=>lhs;rw[<- f_ m k.x.qz.l,Y!,bM]);(have e6:db k.x.qz.l[m]<=qO ((k.x.qz.l.drop m).map db):=xP (by rw[x_ xJ];exact List.mem_cons_self);rw[e2,e3,e4];have e7:q?.wrap (k.g+((qO ((k.x.qz.l.take m).map db)+db k.x.qz.l[m]:Nat):Int)-(db k.x.qz.l[m]:Int))=k.g+(qO ((k.x.qz.l.take m).map db):Nat):=by rw[wr o? o?];omega);rw[e7,wr (n:=(m:Int)-1) o? o?];refine(ih _ o? (.hold _ rfl (hx.qz _ hy) hlk u? u? hr)).mono fun r h=>⟨h.1, ?_⟩;rw[h.2,q02];simp only[if_true];omega
theorem alt_L3(k:qe)(i:Int)(parts:Sl qn)(b:qf)(hx:WF k.x)(hl:kO k.x)(g0:0<=k.g)(g1:k.g+qO (k.x.qz.l.map db)<=g)(hg:g<=1000000000)(pH:B9 g i k.rest)
  (go: ∀y∈k.x.qz.l,∀(q:Int) c,0<=q->q+db y<=g->mF s n c->c.fuel<=b.fuel->Bb s n g (some (qe.mk (0:Int) y q (0:Int) (0:Int) k.rest)) i parts c):
  ∀(r:List qG)(m:Nat)(q:Int)(c:qf),k.x.qz.l.drop m=r->k.g<=q->q+qO (r.map db)<=g->mF s n c->cw b c->
   qJ (kq (some k,i,parts,q,(m:Int),c)) (fun r=>match r with| .inl v=>PE s n g i b v| .inr d=>mF s n d/\cw b d):=by have pf:=au k.x;unfold kO at hl;intro r;induction r with|nil=>intro m q c hm h0 h1 hc hbc;rw[kq.eq_1];have:= @yu;exact tW|cons y r ih=>intro m q c hm h0 h1 hc hbc;obtain⟨a1,a2,a3,a4⟩:=wS hm;simp only[s?,qO]at h1;rw[kq.eq_1];refine .go rfl ?_;rw[if_pos (by simpa using a1),ll o? a1];refine .go a2 ?_;refine .bind (go y a4 q c o? o? hc hbc.fuel) fun v hv=>?_;refine .ite (fun _=> .ret (hv.mono (h! _) hbc)) fun _=>?_;refine .go (eT y (md (by unfold kO;omega) a4)) ?_;rw[wr (n:=q+(db y:Int)) o? o?];exact ih (m+1) _ _ a3 o? o? hv.run (hbc.trans hv.oR)
theorem on_tot: ∀(f w:Nat)(k:Option qe)(i:Int)(parts:Sl qn)(b:qf),b.fuel.toNat=f->kWO k=w->UJ s n g k i parts b->Bb s n g k i parts b:=by
 intro f;induction f using p? with
  |_ f ihf=>intro w;induction w using p? with
  |_ w ihw=>(intro k i parts b hf hw h;have go: ∀k i parts c,UJ s n g k i parts c->c.fuel.toNat<b.fuel.toNat->Bb s n g k i parts c:=fun k i p c h1 h2=>ihf _ o? _ k i p c rfl rfl h1;have Hx: ∀k i parts c,UJ s n g k i parts c->c.fuel<=b.fuel->kWO k<w->Bb s n g k i parts c:=by intro k' i p c h1 h2 h3;have:=h1.run.fuel;by_cases h4:c.fuel.toNat=f;exact ihw _ h3 k' i p c h4 rfl h1;exact ihf _ o? _ k' i p c rfl rfl h1);have hg:=h.g;have hn:=h.run.hn;cases hk:k with
  |none=>unfold Bb;rw[z8.eq_1,if_pos z?];exact .ret ⟨h.run,.refl b,fun _=>⟨h! _,h.i1,h.p⟩⟩
  |some k=>
   rw[hk]at h hw;rw[q02]at hw;cases h.k with
    |Jj _ h1 g0 g1 f0 f1 pH=>unfold Bb;rw[z8.eq_1,if_neg z?];refine .go rfl ?_;rw[if_pos (by simp[h1])];refine .zx (Uv h.p.len hg) ?_;have i1:=h.i1;refine .bind (Ko h.run f0 o?) fun x hx=>?_;refine .bind (Ko h.run h.i0 h.i1) fun y hy=>?_;refine .bind (v_ g0 (by have:=h.p.len;omega)) fun z _=>?_;rw[if_neg o?]at hw;refine rR (Hx k.rest i _ b ⟨h.i0,h.i1,pH,h.p.set _ (.inr ⟨hx.2.1, ?_,hy.2.2⟩) false,h.run,hg⟩ (h! _) o?);exact J6 h.run.mono hx.1 hy.1 o?
    |again _ h1 hx hl h7 g0 g1 pH=>
     have rep:qJ (jS (some k,i,parts,b)) (PE s n g i b):=
      WX k i parts b h.i0 h.i1 hx hl h7 g0 g1 pH h.p h.run hg go fun c hc hcf=>Hx k.rest i parts c ⟨h.i0,h.i1,pH,h.p,hc,hg⟩ hcf (by rw[if_neg o?]at hw;omega)
     unfold Bb;rw[z8.eq_1,if_neg z?];refine .go rfl ?_;rw[if_neg (by simp[h1]),if_pos (by simp[h1])];refine .ite (fun _=>qJ.ite (fun _=> .ret (.fail h.run)) fun _=>rR rep) fun _=>rR rep
    |hold _ h1 hx hl g0 g1 pH=>rw[if_pos h1]at hw;have GI:=WZ k.x;have hwx:=yo k.x;by_cases k0:k.x.kind=0;rw[if_neg o?]at GI;unfold Bb;rw[z8.eq_1,if_neg z?];refine .go rfl ?_;rw[if_neg (by simp[h1]),if_neg (by simp[h1]),if_pos (by simp[k0])];refine .go (eT k.x hl) ?_;have pf:=au k.x;unfold kO at hl;have h2:=seq_L1 k i parts b hx (by unfold kO;omega) g0 o? hg k.x.qz.l.length k.rest (jx _) pH;rw[List.take_length]at h2;rw[wr (n:=k.g+(db k.x:Int)) o? o?,wr (n:=(k.x.qz.l.length:Int)-1) o? o?];rw[show k.g+(db k.x:Int)=k.g+((qO (k.x.qz.l.map db):Nat):Int) by omega];refine .bind h2 fun v hv=>?_;exact rR (Hx v i parts b ⟨h.i0,h.i1,hv.1,h.p,h.run,hg⟩ (h! _) o?);by_cases k1:k.x.kind=1;rw[if_neg o?]at GI;unfold Bb;rw[z8.eq_1,if_neg z?];refine .go rfl ?_;rw[if_neg (by simp[h1]),if_neg (by simp[h1]),if_neg (by simp[k0]),if_pos (by simp[k1])];refine .bind (alt_L3 (s:=s) (n:=n) k i parts b hx hl g0 o? hg pH ?_ k.x.qz.l 0 k.g b rfl (h! _) o? h.run (.refl b)) fun v hv=>?_;intro y hy q c q0 q1 hc hcf;have:=Ge hy;refine Hx _ i parts c ⟨h.i0,h.i1,.hold _ rfl (hx.qz y hy) (md hl hy) q0 q1 pH,h.p,hc,hg⟩ hcf ?_;rw[q02];simp only[if_true];omega;rcases v with v|v;exact .ret hv;exact .ret ⟨hv.1,hv.2,z?⟩;by_cases k7:k.x.kind=7;unfold Bb;rw[z8.eq_1,if_neg z?];refine .go rfl ?_;rw[if_neg (by simp[h1]),if_neg (by simp[h1]),if_neg (by simp[k0]),if_neg (by simp[k1]),if_pos (by simp[k7])];refine rR (WX _ i parts b h.i0 h.i1 hx hl k7 g0 g1 pH h.p h.run hg go fun c hc hcf=>?_);exact Hx k.rest i parts c ⟨h.i0,h.i1,pH,h.p,hc,hg⟩ hcf (by have:=ee k.x;omega);exact Wk k i parts b h h1 ⟨k0,k1,k7⟩ go
end
theorem splitL(s:qa): ∀(r:qa)(k f:Nat)(l out:List qa),s.drop k=r->k<=s.length->s.length<=1048576->(∀ c∈l,c.length<=s.length)->zM (s,(f:Int),(k:Int),l)=some out-> ∀c∈out,c.length<=s.length:=by intro r;induction r with|nil=>intro k f l out hk pf hs hl h;have h1:=vI hk;obtain rfl:k=s.length:=o?;rw[zM.eq_1]at h;simp only[h!,decide_true,if_true,beq_self_eq_true,zF,R!]at h;obtain⟨r,hr,h⟩:=h;split at h;rw[zM.eq_1,if_neg (by rw[wr o? o?];simp;omega)]at h;cases h;intro c hc;rcases m?.1 hc with hc|hc;exact hl c hc;simp only[a?]at hc;subst hc;rw[<- Xq hr];simp;cases h|cons b r ih=>intro k f l out hk pf hs hl h;obtain⟨a1,a2,a3,_⟩:=wS hk;have h1:((k:Int)<=(s.length:Int)):=o?;have h2:((k:Int)==(s.length:Int))=false:=v?;rw[zM.eq_1]at h;simp only[h1,decide_true,if_true,h2,ko,if_false,a2,zF,qS,Kk,ll o? a1]at h;split at h;rw[R!]at h;obtain⟨r1,hr,h⟩:=h;split at h;refine ih (k+1) k _ out a3 o? hs ?_ h;intro c hc;rcases m?.1 hc with hc|hc;exact hl c hc;simp only[a?]at hc;subst hc;rw[<- Xq hr];simp;omega;cases h;exact ih (k+1) f l out a3 o? hs hl h
theorem Aa(s:qa)(hs:s.length<=1048576): ∀(r:qa)(k:Nat)(l:List Int),s.drop k=r->k<=s.length->l.length<=k->l.Pairwise (· < ·)->(∀ x∈l,0<=x/\x<k)->
  ∃out,jh (s,(k:Int),l)=some out/\out.length=l.length+r.countP Jx+1/\out.Pairwise (· < ·)/\ ∀x∈out,0<=x/\x<=s.length:=by
 have WY: ∀n,n<=1099511627777->qg n 8=true:=by intro n hn;simp only[qg,zO,decide_eq_true_eq];omega
 have Gj: ∀(l:List Int)(k:Nat),l.Pairwise (· < ·)->(∀ x∈l,0<=x/\x<(k:Int))->(l++[(k:Int)]).Pairwise (· < ·):=by intro l k h1 h2;refine List.pairwise_append.2 ⟨h1,z?,fun a ha b hb=>?_⟩;simp only[a?]at hb;subst hb;exact(h2 a ha).2
 intro r;induction r with
  |nil=>intro k l hk pf FA hp hr;have h1:=vI hk;obtain rfl:k=s.length:=o?;rw[jh.eq_1];simp only[h!,decide_true,if_true,beq_self_eq_true,WY _ (show l.length+1<=_ by omega)];rw[jh.eq_1,if_neg (by rw[wr o? o?];simp;omega)];refine⟨_,rfl,z?,Gj l _ hp hr, ?_⟩;intro x hx;rcases m?.1 hx with hx|hx;have:=hr x hx;omega;simp only[a?]at hx;omega
  |cons b r ih=>
   intro k l hk pf FA hp hr;obtain⟨a1,a2,a3,_⟩:=wS hk;have h1:((k:Int)<=(s.length:Int)):=o?;have h2:((k:Int)==(s.length:Int))=false:=v?;rw[jh.eq_1];simp only[h1,decide_true,if_true,h2,ko,if_false,a2,zF,qS,Kk,ll o? a1];cases hb:Jx b;obtain⟨out,o1,o2,o3⟩:=ih (k+1) l a3 o? o? hp (fun x hx=>by have:=hr x hx;omega);exact⟨out,by simpa using o1,by rw[o2];simp[O!,hb],o3⟩
   obtain⟨out,o1,o2,o3⟩:=ih (k+1) (l++[(k:Int)]) a3 o? v? (Gj l k hp hr) (fun x hx=>by
    rcases m?.1 hx with hx|hx
    ·have:=hr x hx;omega
    simp only[a?]at hx;omega)
   refine⟨out, ?_,by rw[o2];simp[O!,hb];omega,o3⟩;simp only[if_true,WY _ (show l.length+1<=_ by omega),o1]
theorem UC(fold:Bool)(s:qa)(hs:s.length<=1048576)(fuel:Int):qJ (rh fold s fuel) (fun b=> ∃n,mF s n b):=by
 have hfu:0<=(if (20000:Int)<(if (0:Int)>fuel then(0:Int)else fuel)then(20000:Int)else(if (0:Int)>fuel then(0:Int)else fuel))/\(if (20000:Int)<(if (0:Int)>fuel then(0:Int)else fuel)then(20000:Int)else(if (0:Int)>fuel then(0:Int)else fuel))<=20000:=by constructor<;>(repeat' split)<;>omega
 unfold rh;by_cases h0:s.length=0;(have:s=[]:=by simpa using h0);subst this;refine .go (a:=(⟨true,[]⟩:Sl qa)) (by unfold yJ;rw[zM.eq_1];simp) ?_;refine .go (a:=(⟨false,[0]⟩:Sl Int)) (by unfold rT;rw[jh.eq_1];simp) ?_;exact .ret ⟨0,⟨z?,rfl,z?,rfl,z?,z?,hfu,o?⟩⟩;obtain⟨o1,p1,p2⟩:=MM s o? (s.drop 1) 1 0 [] rfl o? o? z?;have p3:=splitL s (s.drop 1) 1 0 [] o1 rfl o? hs z? p1;obtain⟨o2,q1,q2,q3,q4⟩:=Aa s hs (s.drop 1) 1 [0] rfl o? z? z? z?;have hc:(s.drop 1).countP Jx<=s.length-1:=by have:=List.countP_le_length (p:=Jx) (l:=s.drop 1);simp only[List.length_drop]at this;exact this
 refine .go (a:=(⟨o1.isEmpty,o1⟩:Sl qa)) (by unfold yJ;exact Option.bind_eq_some_iff.2 ⟨o1,p1,rfl⟩) ?_;refine .go (a:=(⟨false,o2⟩:Sl Int)) (by unfold rT;exact Option.bind_eq_some_iff.2 ⟨o2,q1,rfl⟩) ?_;refine .ret ⟨o1.length,⟨hs,rfl,p3, ?_,q3,q4,hfu, ?_⟩⟩;exact tW;simp only[List.length_nil]at p2;omega
structure Qd (s:qa) (n g:Nat) (b:qf) (i:Int) (m:qk):Prop where
 ex: ∃j e:Nat,i<=j/\j<=e/\e<=n/\b.wz.l[j]? =some m.span.qB/\b.wz.l[e]? =some m.span.to
 parts:ph s g m.parts
section
variable {s:qa} {n:Nat}
theorem q0G(i:Int)(b:qf)(x:qG)(t:qk)(hl:kO x)(hg:db x<=1000000000): ∀(m:Nat)(j:Int)(l:List qn),m=(db x-j).toNat->0<=j->j<=db x->(l.length:Int)=j->(∀ y∈l,UM s y)->
  qJ (uN (i,j,b,x,t,l)) (fun r=>r.length=db x/\ ∀y∈r,UM s y):=by intro m;induction m using p? with|_ m ih=>intro j l hm h0 h1 hlen P7;rw[uN.eq_1];refine .go (eT x hl) ?_;refine .tI ?_ ?_<;>intro hT;refine .zx (by simp only[qg,zO,decide_eq_true_eq];omega) ?_;rw[wr (n:=j+1) o? o?];refine ih _ o? (j+1) _ rfl o? o? v? ?_;intro y hy;rcases m?.1 hy with hy|hy;exact P7 y hy;simp only[a?]at hy;subst hy;exact .inl rfl;exact .ret ⟨o?,P7⟩
theorem Ox(x:qG)(hx:WF x)(hl:ru x<=1000000000)(i:Int)(h0:0<=i)(h1:i<=n)(b:qf)(hb:mF s n b):
  qJ (rW x i b) (fun r=>mF s n r.2.2/\cw b r.2.2/\(r.2.1=true->Qd s n (db x) b i r.1)):=by
 have hgl:=RT x;have hli:kO x:=by unfold kO;omega
 unfold rW;refine .bind (q0G (s:=s) i b x _ hli o? _ 0 [] rfl o? o? rfl z?) fun v hv=>?_;refine .bind (on_tot (s:=s) (n:=n) (g:=db x) _ _ _ i _ b rfl rfl ⟨h0,h1,.hold _ rfl hx hli u? u? .none,⟨hv.1,hv.2⟩,hb,o?⟩) fun w hw=>?_;refine .ite (fun _=> .ret ⟨hw.run,hw.oR,z?⟩) fun hc=>?_;have Wn:=hw.ok (by simpa using hc);refine .bind (Ko hw.run h0 h1) fun y hy=>?_;refine .bind (Ko hw.run o? Wn.2.1) fun z hz=>?_;refine .ret ⟨hw.run,hw.oR,fun _=>⟨⟨i.toNat,w.1.toNat,o?,o?,o?, ?_, ?_⟩,Wn.2.2⟩⟩;rw[<- hw.oR.wz];exact hy.1;rw[<- hw.oR.wz];exact hz.1
theorem Qd.mono{g:Nat}{b c:qf}{i j:Int}{m:qk}(h:Qd s n g c j m)(EF:i<=j)(hl:cw b c):Qd s n g b i m:=by obtain⟨⟨p,e,h1,h2,h3,h4,h5⟩,h6⟩:=h;exact⟨⟨p,e,o?,h2,h3,by rw[<- hl.wz];exact h4,by rw[<- hl.wz];exact h5⟩,h6⟩
theorem Fm(x:qG)(hx:WF x)(hl:ru x<=1000000000)(t:qk): ∀(m:Nat)(i:Int)(b:qf),m=(n+1-i).toNat->0<=i->mF s n b->
  qJ (vQ (i,b,x,t)) (fun r=>match r with| .inl v=>mF s n v.2.1/\cw b v.2.1/\(v.1=true->Qd s n (db x) b i v.2.2)| .inr c=>mF s n c/\cw b c):=by intro m;induction m using p? with|_ m ih=>intro i b hm h0 hb;have ho:=hb.wz;have hn:=hb.hn;rw[vQ.eq_1];refine .tI ?_ ?_<;>intro hT;refine .bind (Ox x hx hl i h0 o? b hb) fun v hv=>?_;refine .ite (fun _=> .ret hv) fun _=>?_;rw[wr (n:=i+1) o? o?];refine(ih _ o? (i+1) v.2.2 rfl o? hv.1).mono fun r hr=>?_;rcases r with r|r;exact⟨hr.1,hv.2.1.trans hr.2.1,fun h=>(hr.2.2 h).mono o? hv.2.1⟩;exact⟨hr.1,hv.2.1.trans hr.2⟩;exact .ret ⟨hb,.refl b⟩
theorem W7(x:qG)(hx:WF x)(hl:ru x<=1000000000)(i:Int)(h0:0<=i)(b:qf)(hb:mF s n b):
  qJ (bk x i b) (fun r=>mF s n r.2.2/\cw b r.2.2/\(r.2.1=true->Qd s n (db x) b i r.1)):=by unfold bk;have:= @Fm;exact tW
theorem JB(a:Int)(b:qf)(hb:mF s n b):qJ (uP a b) (fun r=> -1<=r/\ ∀e:Nat,b.wz.l[e]? =some a->r=e):=by
 have ho:=hb.wz;have hn:=hb.hn;have key: ∀(r:List Int)(k:Nat),b.wz.l.drop k=r->qJ (kz (a,(k:Int),b)) (fun v=>match v with| .inl i=> ∃j:Nat,i=j/\b.wz.l[j]? =some a| .inr _=> ∀e:Nat,k<=e->b.wz.l[e]? ≠some a):=by intro r;induction r with|nil=>intro k hk;rw[kz.eq_1,if_neg (by simpa using yu hk)];refine .ret fun e he=>?_;rw[List.getElem?_eq_none (by have:=vI hk;omega)];simp|cons y r ih=>intro k hk;obtain⟨a1,a2,a3,a4⟩:=wS hk;obtain⟨b1,b2,b3⟩:=drop_cons hk;rw[kz.eq_1,if_pos (by simpa using a1),ll o? a1];exact tW
 unfold uP;refine .bind (key b.wz.l 0 rfl) fun v hv=>?_;rcases v with v|v;(obtain⟨j,rfl,hj⟩:=hv;refine .ret ⟨o?,fun e he=>?_⟩;have h1: ¬j<e:=fun h=>by have:=R4 hb.mono hj he h;omega);(have h2: ¬e<j:=fun h=>by have:=R4 hb.mono he hj h;omega);omega;exact .ret ⟨o?,fun e he=>absurd he (hv e (Nat.zero_le e))⟩
def Ms(s:qa)(g:Nat):Int->List qk->Prop
 |lo,[]=>0<=lo/\lo<=s.length
 |lo,m::r=>0<=lo/\lo<=m.span.qB/\m.span.qB<=m.span.to/\ph s g m.parts/\Ms s g m.span.to r
def Fy:Int->List qk->Int
 |lo,[]=>lo
 |_,m::r=>Fy m.span.to r
theorem Ms.lo{g:Nat}: ∀{l:List qk}{lo:Int},Ms s g lo l->0<=lo/\lo<=s.length
 |[],lo,h=>h
 |m::r,lo,h=>by have:=Ms.lo h.2.2.2.2;have h1:=h.1;have h2:=h.2.1;have h3:=h.2.2.1;omega
theorem XQ: ∀(l:List qk)(lo:Int)(m:qk),Fy lo (l++[m])=m.span.to
 |[],_,_=>rfl
 |_::r,_,m=>XQ r _ m
theorem Ms.Gj{g:Nat}: ∀{l:List qk}{lo:Int}{m:qk},Ms s g lo l->Fy lo l<=m.span.qB->m.span.qB<=m.span.to->m.span.to<=s.length->ph s g m.parts->Ms s g lo (l++[m])
 |[],lo,m,h,h1,h2,h3,h4=>by have:=h.1;exact⟨h.1,h1,h2,h4,by simp only[Fy]at h1;omega,h3⟩
 |x::r,lo,m,h,h1,h2,h3,h4=>⟨h.1,h.2.1,h.2.2.1,h.2.2.2.1,Ms.Gj h.2.2.2.2 h1 h2 h3 h4⟩
theorem Ol(x:qG)(hx:WF x)(hl:ru x<=1000000000): ∀(m:Nat)(i:Int)(b:qf)(out:List qk),m=(n+1-i).toNat->0<=i->i<=n+1->(out.length:Int)<=i->mF s n b->Ms s (db x) 0 out->(∀ a,b.wz.l[i.toNat]? =some a->Fy 0 out<=a)->
  qJ (bZ (i,x,b,out)) (fun r=>match r with| .inl v=>v.2.2.1≠0/\v.1.l=[]| .inr v=>Ms s (db x) 0 v.2/\v.2.length<=n+1):=by intro m;induction m using p? with|_ m ih=>intro i b out hm h0 hi1 hlen hb hM hhi;have ho:=hb.wz;have hn:=hb.hn;rw[bZ.eq_1];refine .tI ?_ ?_<;>intro hT;have hi:=hT;refine .bind (W7 x hx hl i h0 b hb) fun v hv=>?_;refine .tI ?_ ?_<;>intro hT;exact .ret ⟨z?,rfl⟩;refine .tI ?_ ?_<;>intro hT;exact .ret ⟨hM,u?⟩;(obtain⟨⟨j,e,g1,g2,g3,g4,g5⟩,g6⟩:=hv.2.2 hT;refine .zx (by simp only[qg,zO,decide_eq_true_eq];omega) ?_;refine .bind (JB v.1.span.to v.2.2 hv.1) fun w hw=>?_;have hwe:w=e:=hw.2 e (by rw[hv.2.1.wz];exact g5);have hlow:Fy 0 out<=v.1.span.qB:=by obtain⟨a,ha⟩: ∃a,b.wz.l[i.toNat]? =some a:=⟨_,wu o?⟩;have h1:=hhi a ha;have h2:=J6 hb.mono ha g4 o?;omega);have hft:=J6 hb.mono g4 g5 g2;have hto:=(hb.Qr _ (z6 g5)).2;have hM2:=hM.Gj hlow hft hto g6;have l7:=hv.2.1.wz;refine .tI ?_ ?_<;>intro hT;rw[wr (n:=w+1) o? o?];refine ih _ o? (w+1) v.2.2 _ rfl o? o? v? hv.1 hM2 ?_;intro a ha;rw[XQ];rw[l7]at ha;exact J6 hb.mono g5 ha o?;(have jz:=hT;have hje:j<e:=by rcases Nat.eq_or_lt_of_le g2 with rfl|h;exact absurd (Option.some.inj (g4.symm.trans g5)) jz;exact h);refine ih _ o? w v.2.2 _ rfl o? o? v? hv.1 hM2 ?_;intro a ha;rw[XQ];rw[l7]at ha;exact J6 hb.mono g5 ha o?;exact .ret ⟨hM,u?⟩
end
theorem Dw(x:qG)(hl:ru x<=1000000000)(fold:Bool)(s:qa)(hs:s.length<=1048576)(fuel:Int):qJ (ix x fold s fuel) (fun r=>r.2.2=0->Ms s (db x) 0 r.1.l/\r.1.l.length<=1048577):=by unfold ix;refine .bind (XA x (by unfold kO;omega)) fun v hv=>?_;refine .tI ?_ ?_<;>intro hT;exact .ret z?;have hx:=hv hT;refine .bind (UC fold s hs fuel) fun b hb=>?_;obtain⟨n,hb⟩:=hb;refine .bind (Ol (s:=s) (n:=n) x hx hl _ 0 b [] rfl o? o? z? hb ⟨o?,o?⟩ (fun a ha=>(hb.Qr a (z6 ha)).1)) fun w hw=>?_;rcases w with w|w;exact .ret fun h=>absurd h hw.1;exact .ret fun _=>⟨hw.1,by have:=hb.hn;have:=hw.2;simp only;omega⟩
theorem Py(x:qG)(hl:ru x<=1000000000)(fold:Bool)(s:qa)(hs:s.length<=1048576)(a fuel:Int):qJ (fA x fold s a fuel) (fun r=>r.2.2.1=true->Ms s (db x) 0 [r.1]):=by unfold fA;refine .bind (XA x (by unfold kO;omega)) fun v hv=>?_;refine .tI ?_ ?_<;>intro hT;exact .ret z?;have hx:=hv hT;refine .bind (UC fold s hs fuel) fun b hb=>?_;obtain⟨n,hb⟩:=hb;refine .bind (JB a b hb) fun w hw=>?_;refine .tI ?_ ?_<;>intro hT;exact .ret z?;refine .bind (W7 x hx hl w o? b hb) fun y hy=>?_;refine .bind (P:=fun r=>r.2.2.1=true->y.2.1=true/\r.1=y.1) ?_ fun z hz=>?_;exact tW;refine .ret fun h=>?_;obtain⟨z1,z2⟩:=hz h;obtain⟨⟨j,e,g1,g2,g3,g4,g5⟩,g6⟩:=hy.2.2 z1;simp only[z2];have h1:=hb.Qr _ (z6 g4);have h2:=hb.Qr _ (z6 g5);exact⟨o?,h1.1,J6 hb.mono g4 g5 g2,g6,h2⟩
theorem Vk(c:UInt8):qJ (fD c) (fun _=>True):=by unfold fD;refine .tI ?_ ?_<;>intro hT;exact .ret trivial;exact .ret trivial
theorem W0(c:UInt8):qJ (sT c) (fun _=>True):=by unfold sT;refine .tI ?_ ?_<;>intro hT;exact .ret trivial;exact .ret trivial
theorem C5(c:UInt8): ∃v,fC c=some v:=by
 unfold fC dE;repeat' split
 all_goals first|exact⟨_,rfl⟩|(simp only[zF,qS];split<;>exact⟨_,rfl⟩)
theorem El: ∀(m:Nat)(i:Int)(b:List UInt8),m=(b.length-i).toNat->0<=i->b.length<=1099511627776->qJ (mh (i,b)) (fun r=>r.length=b.length):=by intro m;induction m using p? with|_ m ih=>intro i b hm h0 hB;rw[mh.eq_1];refine .tI ?_ ?_<;>intro hT;{refine .bind .get fun c hc=>?_;refine .bind (Vk c) fun v _=>?_;(repeat (first|(rw [qH];rotate_left;omega;omega)|(rw [xI];rotate_left;omega;omega)));exact(ih _ v? (i+1) _ rfl o? (by simpa using hB)).mono fun r hr=>by simpa using hr};exact .ret rfl
theorem Em: ∀(m:Nat)(i:Int)(b:List UInt8),m=(b.length-i).toNat->0<=i->b.length<=1099511627776->qJ (mi (i,b)) (fun r=>r.length=b.length):=by intro m;induction m using p? with|_ m ih=>intro i b hm h0 hB;rw[mi.eq_1];refine .tI ?_ ?_<;>intro hT;{refine .bind .get fun c hc=>?_;refine .bind (W0 c) fun v _=>?_;(repeat (first|(rw [qH];rotate_left;omega;omega)|(rw [xI];rotate_left;omega;omega)));exact(ih _ v? (i+1) _ rfl o? (by simpa using hB)).mono fun r hr=>by simpa using hr};exact .ret rfl
def aE(s:qa):Nat:=s.length
theorem Hw: ∀(l:List qa),(∀ w∈l,1<=w.length)->l.length<=qO (l.map aE)
 |[],_=>z?
 |a::l,h=>by have h1:=h a z?;have h2:=Hw l fun w hw=>h w (by simp[hw]);simp only[s?,qO,h?,aE]at*;omega
theorem words_L0(s:qa)(hs:s.length<=1048576): ∀(r:qa)(k:Nat)(l:List qa),s.drop k=r->k<=s.length->(∀ w∈l,1<=w.length)->qO (l.map aE)<=k->(0<k-> ∀b,s[k-1]? =some b->fC b=some true->0<l.length)->
  qJ (jB (s,(k:Int),l)) (fun r=>(∀ w∈r,1<=w.length)/\qO (r.map aE)<=s.length):=by
 intro r;induction r with
  |nil=>intro k l hk Ng h1 h2 h3;rw[jB.eq_1,if_neg (by simpa using yu hk)];exact .ret ⟨h1,o?⟩
  |cons b r ih=>
   intro k l hk Ng h1 h2 h3;obtain⟨a1,a2,a3,a4⟩:=wS hk;obtain⟨b1,b2,b3⟩:=drop_cons hk;have hl:=Hw l h1;have e1:q?.wrap ((k:Int)+1)=((k+1:Nat):Int):=ll o? a1;have put: ∀(l:List qa),0<l.length->l.length<=k+1->(∀ i w,l[i]? =some w->i+1<l.length->1<=w.length)->qO (l.map aE)<=k-> ∀{f:qa->qa->Option (List qa)},(∀ x y,f x y=if x.length+y.length<=2^62 then jB (s,q?.wrap ((k:Int)+1),l.set ((q?.wrap ((l.length:Int)-1)).toNat) (x++y))else none)->
     qJ (qh l (q?.wrap ((l.length:Int)-1))>>=fun x=>jj s (k:Int) (q?.wrap ((k:Int)+1))>>=fun y=>f x y) (fun r=>(∀ w∈r,1<=w.length)/\qO (r.map aE)<=s.length):=by
    intro l hl0 hlk h4 h5 f hf;have e2:q?.wrap ((l.length:Int)-1)=((l.length-1:Nat):Int):=by rw[wr o? o?];omega
    rw[e2,e1];refine .bind .get fun x hx=>?_;have hxl:x.length<=qO (l.map aE):=xP (f:=aE) hx.2;refine .bind .jj fun y hy=>?_;rw[hf];refine .zx o? ?_;have Pa:y.length=1:=o?;have FK:l[l.length-1]? =some x:=by simpa using hx.1
    have hsum:=Q7 aE l (l.length-1) (x++y) x FK;rw[e2,d?,e1];have hlen:aE (x++y)=aE x+1:=by simp[aE,Pa]
    refine ih (k+1) _ a3 o? ?_ o? (fun _ _ _ _=>by simpa using hl0);intro w hw;obtain⟨i,hi⟩:=kb hw;rw[List.getElem?_set]at hi;split at hi
    ·split at hi
     ·cases hi;simp[Pa]
     cases hi
    rename_i jz;have:=(qF hi).1;exact h4 i w hi o?
   (obtain⟨v,hv⟩:=C5 b;rw[jB.eq_1,if_pos (by simpa using a1)];refine .go a2 ?_;refine .go hv ?_;have hnew: ∀i w,(l++[([]:qa)])[i]? =some w->i+1<(l++[([]:qa)]).length->1<=w.length:=by intro i w hi xJ;simp only[t?,h?,e?]at xJ;rw[List.getElem?_append_left o?]at hi;exact h1 w (z6 hi));(have FC:qO ((l++[([]:qa)]).map aE)<=k:=by rw[kf];simp only[aE,e?];omega);(have gY:qg (l.length+1) 16=true:=by simp only[qg,zO,decide_eq_true_eq];omega);refine .tI ?_ ?_<;>intro hT;rw[e1];refine ih (k+1) l a3 o? h1 o? (fun _ c hc Hl=>?_);simp only[K_]at hc;rw[b1]at hc;cases hc;rw[hv]at Hl;cases Hl;exact absurd hT z?;refine .tI ?_ ?_<;>intro hT;exact .zx gY (put _ z? v? hnew FC fun _ _=>rfl);(have hk0:0<k:=o?;have e3:q?.wrap ((k:Int)-1)=((k-1:Nat):Int):=by rw[wr o? o?];omega);rw[e3];refine .bind .get fun c hc=>?_;obtain⟨w,hw⟩:=C5 c;refine .go hw ?_;refine .tI ?_ ?_<;>intro hT;exact .zx gY (put _ z? v? hnew FC fun _ _=>rfl);refine put l (h3 hk0 c (by simpa using hc.1) ?_) o? (fun i w hi _=>h1 w (z6 hi)) h2 fun _ _=>rfl;rw[hw,hT]
theorem Es(s:qa)(hs:s.length<=1048576):qJ (cQ s) (fun r=>(∀ w∈r.l,1<=w.length)/\qO (r.l.map aE)<=s.length):=by unfold cQ;exact .bind (words_L0 s hs s 0 [] rfl o? z? (by simp[qO]) (fun h=>o?)) fun v hv=> .ret hv
theorem En(wA:Int)(ws:Sl qa)(r0:List UInt8)(hw: ∀w∈ws.l,1<=w.length)(hs:qO (ws.l.map aE)<=1048576): ∀(r:List qa)(k:Nat)(out:qa),ws.l.drop k=r->out.length+qO (r.map aE)<=qO (ws.l.map aE)->
  qJ (yK (wA,ws,out,(k:Int),r0)) (fun t=>t.length<=qO (ws.l.map aE)):=by have hl:=Hw ws.l hw;intro r;induction r with|nil=>intro k out hk ho;rw[yK.eq_1,if_neg (by simpa using yu hk)];simp only[L?,qO]at ho;exact .ret o?|cons x r ih=>intro k out hk ho;obtain⟨a1,a2,a3,a4⟩:=wS hk;simp only[s?,qO,aE]at ho;have hx:=hw x a4;rw[yK.eq_1,if_pos (by simpa using a1),ll o? a1];refine .go a2 ?_;refine .tI ?_ ?_<;>intro hT;refine .bind .get fun c _=>?_;refine .bind (W0 c) fun v _=>?_;refine .zx v? ?_;exact ih (k+1) _ a3 (by simp[aE];omega);refine .bind .get fun c _=>?_;refine .bind (Vk c) fun v _=>?_;refine .zx v? ?_;exact ih (k+1) _ a3 (by simp[aE];omega)
theorem Vj(s:qa)(hs:s.length<=1048576)(wA:Int):qJ (sS s wA) (fun r=>r.1.length<=s.length):=by unfold sS;refine .tI ?_ ?_<;>intro hT;exact .bind (El _ 0 s rfl o? o?) fun v hv=> .ret u?;refine .tI ?_ ?_<;>intro hT;exact .bind (Em _ 0 s rfl o? o?) fun v hv=> .ret u?;refine .tI ?_ ?_<;>intro hT;refine .tI ?_ ?_<;>intro hT;refine .bind .get fun c _=>?_;refine .bind (Vk c) fun v _=>?_;exact .ret z?;exact .ret z?;refine .tI ?_ ?_<;>intro hT;refine .bind (Es s hs) fun w hw=>?_;refine .bind (En wA w s hw.1 o? w.l 0 [] rfl z?) fun v hv=>?_;exact .ret u?;exact .ret z?
theorem BC(fs:Sl zt)(hf:qO (fs.l.map oz)<=1000000000)(parts:Sl qa)(hp: ∀p∈parts.l,p.length<=1048576):qJ (cR fs parts) (fun r=>r.length<=1048576*qO (fs.l.map oz)):=by
 have hl:=xc ZV fs.l;unfold cR;refine .bind (YS fs o?) fun v hv=>?_;refine .tI ?_ ?_<;>intro hT;exact .ret z?;have hn:=hv hT;have key: ∀(r:List zt)(k:Nat)(s:qa),fs.l.drop k=r->s.length+1048576*qO (r.map oz)<=1048576*qO (fs.l.map oz)->qJ (zq (fs,parts,s,(k:Int))) (fun r=>r.length<=1048576*qO (fs.l.map oz)):=by intro r;induction r with|nil=>intro k s hk hs;rw[zq.eq_1,if_neg (by simpa using yu hk)];exact .ret o?|cons f r ih=>(intro k s hk hs;obtain⟨a1,a2,a3,a4⟩:=wS hk;simp only[s?,qO]at hs;have hfw:oz f=1+f.lj.length+f.QD.length:=rfl;have hfn:=hn f a4;have next: ∀t:qa,t.length<=1048576*oz f->qJ (if s.length+t.length<=2^62 then zq (fs,parts,(s++t),((k+1:Nat):Int))else none) (fun r=>r.length<=1048576*qO (fs.l.map oz)):=by intro t ht;refine .zx o? (ih (k+1) _ a3 ?_);simp only[t?];omega);(have h1:=next f.lj o?);(have h2:=next f.QD o?);(have h3:=next [] z?);rw[zq.eq_1,if_pos (by simpa using a1),ll o? a1];refine .go a2 ?_;refine .ite (fun hc=>?_) fun hc=>?_;{(simp only[decide_eq_true_eq]at hc;refine .bind (v_ hfn hc) fun p hpp=>?_;have cp:=hp p hpp.2;have h4:=next p o?);repeat' (first|exact h1|exact h2|exact h4|(refine .bind (Vj p cp _) fun v hv=>?_;exact next v.1 (by omega))|refine .ite (fun _=>?_) (fun _=>?_))};repeat' (first|exact h1|exact h2|exact h3|(refine .bind (Vj [] (by simp) _) fun v hv=>?_;exact next v.1 (by simp only[e?]at hv;omega))|refine .ite (fun _=>?_) (fun _=>?_))
 exact .bind (key fs.l 0 [] rfl z?) fun v hv=> .ret hv
theorem Ud(f:zn)(hf:vK f<=1000000000)(s:qa)(hs:s.length<=1048576)(g:Nat)(hg:g<=1000000000)(m:qk)(h0:0<=m.span.qB)(h1:m.span.qB<=m.span.to)(h2:m.span.to<=s.length)(hp:ph s g m.parts):
  qJ (dO f s m) (fun r=>r.length<=1048576*1000000000):=by
 have cp:=hp.len;have hfw:vK f=ru f.rx+qO (f.wy.l.map oz)+QX f.wy:=rfl;have key: ∀(r:List qn)(k:Nat)(ps:List qa),m.parts.l.drop k=r->ps.length=k+1->(∀ p∈ps,p.length<=1048576)->qJ (hQ (s,(k:Int),f,m,ps)) (fun r=> ∀p∈r,p.length<=1048576):=by intro r;induction r with|nil=>intro k ps hk hl FH;rw[hQ.eq_1,if_neg (by simpa using yu hk)];exact .ret FH|cons x r ih=>(intro k ps hk hl FH;obtain⟨a1,a2,a3,a4⟩:=wS hk;have hx:=hp.ok x a4;have more: ∀p:qa,p.length<=1048576-> ∀q∈ps++[p],q.length<=1048576:=by intro p hp q hq;rcases m?.1 hq with hq|hq;exact FH q hq;simp only[a?]at hq;subst hq;exact hp);(have gY:qg (ps.length+1) 16=true:=by simp only[qg,zO,decide_eq_true_eq];omega);rw[hQ.eq_1,if_pos (by simpa using a1),ll o? a1];refine .go a2 ?_;refine .tI ?_ ?_<;>intro hT;rcases hx with hx|hx;omega;refine .bind (qJ.jj hx.1 hx.2.1 hx.2.2) fun y hy=>?_;exact .zx gY (ih (k+1) _ a3 v? (more y o?));exact .zx gY (ih (k+1) _ a3 v? (more [] z?))
 unfold dO;refine .bind (qJ.jj h0 h1 h2) fun y hy=>?_;refine .bind (key m.parts.l 0 [y] rfl rfl v?) fun v hv=>?_;refine .bind (BC f.wy o? ⟨false,v⟩ hv) fun w hw=>?_;refine .ret ?_;have:qO (f.wy.l.map oz)<=1000000000:=o?;have:=Nat.mul_le_mul_left 1048576 this;omega
theorem PT(f:zn)(hf:vK f<=1000000000)(s:qa)(hs:s.length<=1048576)(g:Nat)(hg:g<=1000000000)(ms:Sl qk)(Vs:ms.l.length<=1099511627776)(left:Int): ∀(r:List qk)(k:Nat)(a:Int)(out:qa),ms.l.drop k=r->Ms s g a r->out.length<=65536->
  qJ (uh (s,ms,left,out,a,(k:Int),f)) (fun v=>match v with| .inl y=>y.2.2.1≠0/\y.1=[]| .inr y=>y.1.length<=65536/\0<=y.2/\y.2<=s.length):=by intro r;induction r with|nil=>intro k a out hk hm ho;rw[uh.eq_1,if_neg (by simpa using yu hk)];exact .ret ⟨ho,hm⟩|cons x r ih=>intro k a out hk hm ho;obtain⟨a1,a2,a3,a4⟩:=wS hk;obtain⟨m1,m2,m3,m4,m5⟩:=hm;have m6:=m5.lo;rw[uh.eq_1,if_pos (by simpa using a1),ll o? a1];refine .go a2 ?_;have:= @Ud;exact tW
theorem BD(f:zn)(hf:vK f<=1000000000)(s:qa)(hs:s.length<=1048576)(g:Nat)(hg:g<=1000000000)(ms:List qk)(Vs:ms.length<=1099511627776)(left:Int)(b1:qk)(r2:List qk): ∀(r:List qk)(k:Nat)(a:Int)(out:qa),ms.drop k=r->Ms s g a r->out.length<=65536->
  qJ (wE (s,left,out,a,(k:Int),f,b1,r2,ms)) (fun v=>match v with| .inl y=>y.2.2.1≠0/\y.1=[]| .inr y=>y.1.length<=65536/\0<=y.2/\y.2<=s.length):=by intro r;induction r with|nil=>intro k a out hk hm ho;rw[wE.eq_1,if_neg (by simpa using yu hk)];exact .ret ⟨ho,hm⟩|cons x r ih=>intro k a out hk hm ho;obtain⟨a1,a2,a3,a4⟩:=wS hk;obtain⟨m1,m2,m3,m4,m5⟩:=hm;have m6:=m5.lo;rw[wE.eq_1,if_pos (by simpa using a1),ll o? a1];refine .go a2 ?_;have:= @Ud;exact tW
theorem aK(f:zn)(hf:vK f<=1000000000)(s:qa)(hs:s.length<=1048576)(fuel:Int):qJ (hK f s fuel) (fun r=>r.1.length<=65536\/r.1=s):=by have hfw:vK f=ru f.rx+qO (f.wy.l.map oz)+QX f.wy:=rfl;have hgl:=RT f.rx;unfold hK;refine .bind (YT f o?) fun v hv=>?_;refine .tI ?_ ?_<;>intro hT;exact .ret (.inl z?);refine .tI ?_ ?_<;>intro hT;{refine .bind (Dw f.rx o? f.fold s hs fuel) fun w hw=>?_;refine .tI ?_ ?_<;>intro hT;exact .ret (.inl z?);have hM:=hw hT;refine .tI ?_ ?_<;>intro hT;exact .ret (.inr rfl);refine .bind (PT f hf s hs (db f.rx) o? w.1 (by have:=hM.2;omega) w.2.1 w.1.l 0 0 [] rfl hM.1 z?) fun y hy=>?_;rcases y with y|y;exact .ret (.inl (by simp only[hy.2,e?];omega));simp only;(try simp(disch:=omega) only[qH,xI]);refine .tI ?_ ?_<;>intro hT;exact .ret (.inl z?);refine .bind (qJ.bH hy.2.1 hy.2.2) fun z hz=>?_;refine .zx o? ?_;exact .ret (.inl (by simp only[t?];omega))};refine .bind (Py f.rx o? f.fold s hs 0 fuel) fun w hw=>?_;refine .tI ?_ ?_<;>intro hT;{have hM:=hw hT;refine .zx (by simp[qg]) ?_;refine .tI ?_ ?_<;>intro hT;exact .ret (.inl z?);(first|refine .ite (fun h=>absurd h (by simp)) fun _=>?_|skip);refine .bind (BD f hf s hs (db f.rx) o? [w.1] z? w.2.1 w.1 [w.1] [w.1] 0 0 [] rfl hM z?) fun y hy=>?_;rcases y with y|y;exact .ret (.inl (by simp only[hy.2,e?];omega));simp only;(try simp(disch:=omega) only[qH,xI]);refine .tI ?_ ?_<;>intro hT;exact .ret (.inl z?);refine .bind (qJ.bH hy.2.1 hy.2.2) fun z hz=>?_;refine .zx o? ?_;exact .ret (.inl (by simp only[t?];omega))};refine .tI ?_ ?_<;>intro hT;exact .ret (.inl z?);first|exact .ite (fun _=> .ret (.inr rfl)) fun h=>absurd (by decide) h|exact .ret (.inr rfl)
namespace Xr
def mG(x:qq):Prop:=vK x.qR<=1000000000/\(∀ o∈x.opts.l,o.length<=17592186044416)/\QX x.opts=0/\x.opts.l.length<=8192002
theorem Q6:Cored mG:=by intro x y h hy;simp only[core,Prod.mk.injEq]at h;unfold mG at*;rw[h.2.2.2.1,h.2.2.2.2];exact hy
abbrev World:=qa×Sl qy×List qb×Sl (Sl (Sl Int))
structure WK (w:World):Prop where
 ok:Sy mG w.1 w.2.1 w.2.2.1 w.2.2.2
 text:w.1.length<=65536
structure XC (i:Nat) (w v:World):Prop where
 len:v.2.2.1.length=w.2.2.1.length
 cur: ∀(j:Nat) s,w.2.2.1[j]? =some s-> ∃s',v.2.2.1[j]? =some s' /\s'.cur=s.cur
 insts: ∀s,w.2.2.1[i]? =some s-> ∃s',v.2.2.1[i]? =some s' /\s'.insts.l.length=s.insts.l.length
theorem XC.refl(i:Nat)(w:World):XC i w w:=⟨rfl,fun j s h=>⟨s,h,rfl⟩,fun s h=>⟨s,h,rfl⟩⟩
theorem XC.trans{i:Nat}{w v u:World}(h1:XC i w v)(h2:XC i v u):XC i w u:=by refine⟨h2.len.trans h1.len,fun j s h=>?_,fun s h=>?_⟩;obtain⟨s',a,b⟩:=h1.cur j s h;obtain⟨s'',c,d⟩:=h2.cur j s' a;exact⟨s'',c,d.trans b⟩;obtain⟨s',a,b⟩:=h1.insts s h;obtain⟨s'',c,d⟩:=h2.insts s' a;exact⟨s'',c,d.trans b⟩
theorem ZU{w:World}(h:Sy mG w.1 w.2.1 w.2.2.1 w.2.2.2){i a k:Nat}{s:qb}{x:qj}(hs:w.2.2.1[i]? =some s)(hx:s.insts.l[a]? =some x)(hk:k<x.stops.l.length):
  w.2.2.2.nil=false/\ ∃f,w.2.2.2.l[i]? =some f/\f.nil=false/\ ∃g,f.l[a]? =some g/\g.nil=false/\g.l.length=x.stops.l.length/\ ∃v,g.l[k]? =some v/\0<=v/\v<=3:=by have hi:=(qF hs).1;have ha:=(qF hx).1;refine⟨h.fnn fun c=>?_, ?_⟩;rw[c]at hi;simp at hi;obtain⟨f,hf⟩:=gl (l:=w.2.2.2.l) (k:=i) (by rw[h.W8];exact hi);have hF:=h.each i s f hs hf;obtain⟨g,hg⟩:=gl (l:=f.l) (k:=a) (by rw[hF.len];exact ha);obtain⟨q1,q2,q3⟩:=hF.each a x g hx hg;obtain⟨v,hv⟩:=gl (l:=g.l) (k:=k) o?;refine⟨f,hf,hF.nn fun c=>?_,g,hg,q2 fun c=>?_,q1,v,hv,q3 v (z6 hv)⟩;rw[c]at ha;simp at ha;rw[c]at hk;simp at hk
theorem Yv{w:World}(h:Sy mG w.1 w.2.1 w.2.2.1 w.2.2.2){i a k:Nat}{f:Sl (Sl Int)}{g:Sl Int}(hf:w.2.2.2.l[i]? =some f)(hg:f.l[a]? =some g)(v:Int)(hv:0<=v/\v<=3):
  Sy mG w.1 w.2.1 w.2.2.1 ⟨false,w.2.2.2.l.set i ⟨false,f.l.set a ⟨false,g.l.set k v⟩⟩⟩:=by have dh:=(qF hf).1;have Vp:=(qF hg).1;refine⟨h.blen,h.ne,h.Y1,h.SD,h.Kj,h.du,h.small,h.may,by simp[h.W8],fun _=>rfl, ?_,h.stop⟩;intro j s f' hs Hm;simp only[zl]at Hm;by_cases c:i=j;subst c;rw[if_pos ⟨rfl,dh⟩]at Hm;cases Hm;have hF:=h.each i s f hs hf;refine⟨by simp[hF.len],fun _=>rfl, ?_⟩;intro b x g' hx hg';simp only[zl]at hg';by_cases d:a=b;subst d;rw[if_pos ⟨rfl,Vp⟩]at hg';cases hg';obtain⟨q1,q2,q3⟩:=hF.each a x g hx hg;refine⟨by simp[q1],fun _=>rfl,fun u hu=>?_⟩;rcases l! hu with hu|rfl;exact q3 u hu;exact hv;rw[if_neg o?]at hg';exact hF.each b x g' hx hg';rw[if_neg o?]at Hm;exact h.each j s f' hs Hm
theorem nilF{α:Type}{s:Sl α}(h:s.nil=false):(⟨false,s.l⟩:Sl α)=s:=by rw[<- h]
theorem num_L0(i a:Nat)(n:Int)(w:World)(h:Sy mG w.1 w.2.1 w.2.2.1 w.2.2.2)(s:qb)(x:qj)(hs:w.2.2.1[i]? =some s)(hx:s.insts.l[a]? =some x)(hL:x.stops.l.length<=2^12):
  ∀(d k:Nat)(held:List Bool),k+d=x.stops.l.length->held.length=x.stops.l.length-> ∃held',jq ((i:Int),(a:Int),n,(k:Int),w.1,w.2.1,w.2.2.1,w.2.2.2,x,held)=some (w.2.2.2,held')/\held'.length=x.stops.l.length:=by intro d;induction d with|zero=>intro k held hk hh;rw[jq.eq_1,if_neg v?];exact⟨held,rfl,hh⟩|succ d ih=>intro k held hk hh;obtain⟨z,f,hf,fz,g,hg,gz,gl',v,hv,_⟩:=ZU h hs hx (show k<x.stops.l.length by omega);obtain⟨hb,hhb⟩:=gl (l:=held) (k:=k) o?;rw[jq.eq_1,if_pos v?,z,if_neg z?,gi hf,ws o?];simp only[zF,qS];rw[fz,if_neg z?,gi hg];simp only[qS];rw[gz,if_neg z?,gi hv];simp only[qS];rw[gi hhb];simp only[qS,d?];rw[nilF z];exact ih (k+1) _ o? (by simp[hh])
theorem tm2(v:Int)(h:0<=v/\v<=3):0<=v.tmod 2/\v.tmod 2<=1:=by rcases(show v=0\/v=1\/v=2\/v=3 by omega)with rfl|rfl|rfl|rfl<;>decide
theorem num_L2(i a:Nat)(n src:Int)(w:World)(s:qb)(x:qj)(hs:w.2.2.1[i]? =some s)(hx:s.insts.l[a]? =some x)(hL:x.stops.l.length<=2^12):
  ∀(d k:Nat)(fl:Sl (Sl (Sl Int))),k+d=x.stops.l.length->Sy mG w.1 w.2.1 w.2.2.1 fl->(∀ f g,fl.l[i]? =some f->f.l[a]? =some g-> ∀j,j<k-> ∀v,g.l[j]? =some v->v<=1)->
  ∃H8,jr ((i:Int),(a:Int),n,src,(k:Int),w.1,w.2.1,w.2.2.1,fl,x)=some H8/\Sy mG w.1 w.2.1 w.2.2.1 H8/\(∀ f g,H8.l[i]? =some f->f.l[a]? =some g-> ∀j,j<x.stops.l.length-> ∀v,g.l[j]? =some v->v<=1):=by intro d;induction d with|zero=>intro k fl hk h H;rw[jr.eq_1,if_neg v?];exact⟨fl,rfl,h,fun f g hf hg j hj v hv=>H f g hf hg j o? v hv⟩|succ d ih=>intro k fl hk h H;obtain⟨z,f,hf,fz,g,hg,gz,gl',v,hv,hv3⟩:=ZU (w:=(w.1,w.2.1,w.2.2.1,fl)) h hs hx (show k<x.stops.l.length by omega);simp only at z hf;rw[jr.eq_1,if_pos v?,z,if_neg z?,gi hf,ws o?];simp only[zF,qS];rw[fz,if_neg z?,gi hg];simp only[qS];rw[gz,if_neg z?,gi hv];simp only[qS,d?];have h2:=tm2 v hv3;have px:=Yv (w:=(w.1,w.2.1,w.2.2.1,fl)) (k:=k) h hf hg (v.tmod 2) o?;refine ih (k+1) _ o? px fun f' g' Hm hg' j hj u hu=>?_;have dh:=(qF hf).1;have Vp:=(qF hg).1;rw[zl,if_pos ⟨rfl,dh⟩]at Hm;cases Hm;simp only at hg';rw[zl,if_pos ⟨rfl,Vp⟩]at hg';cases hg';simp only at hu;rw[zl]at hu;by_cases c:k=j;subst c;have pf:=(qF hv).1;rw[if_pos ⟨rfl,pf⟩]at hu;cases hu;exact h2.2;rw[if_neg o?]at hu;exact H f g hf hg j o? u hu
def JL(i:Nat)(w:World)(v:(Int×World)⊕World):Prop:=match v with
 | .inl u=>u.1≠0
 | .inr u=>WK u/\XC i w u
theorem FV{i a j:Nat}{w:World}(hw:WK w){s:qb}{y:qj}{x:qq}(hs:w.2.2.1[i]? =some s)(hy:s.insts.l[a]? =some y)(hx:y.stops.l[j]? =some x)(t:qa)(ht:t.length<=65536):
  ∃v:World,jL (i:Int) (a:Int) (j:Int) (ql.mk x.span t) false w.1 w.2.1 w.2.2.1 w.2.2.2=some v/\Sy mG v.1 v.2.1 v.2.2.1 v.2.2.2/\XC i w v:=by have hm:=hw.ok.may s (z6 hs);have h1:=(hm.may a y hy).inside j x hx;have h2:=(hm.may a y hy).le j x hx;have h3:=(hm.may a y hy).Qr;have Ju:=hw.text;have he:kM (ql.mk x.span t) w.1.length:=⟨u?,u?,u?,u?,o?⟩;obtain⟨v,g1,g2⟩:=TJ Q6 hw.ok he u? (i:Int) (a:Int) (j:Int) false (.inr ⟨i,s,rfl,hs,o?,.inr ⟨a,j,y,x,rfl,rfl,hy,hx,Qb _⟩⟩);exact⟨v,g1,g2.ok,⟨g2.len,g2.cur,fun s' oQ=>g2.top i s' rfl o? oQ⟩⟩
theorem U6(i a j:Nat)(n:Int)(t:qa)(ht:t.length<=65536)(b3:qj)(w:World)(hw:WK w)(hi:i<w.2.2.1.length)
  (next: ∀w' :World,WK w' ->XC i w w' ->j<2^12->qJ (zm ((i:Int),(a:Int),n,t,((j+1:Nat):Int),w'.1,w'.2.1,w'.2.2.1,w'.2.2.2,b3)) (JL i w)):
  qJ (zm ((i:Int),(a:Int),n,t,(j:Int),w.1,w.2.1,w.2.2.1,w.2.2.2,b3)) (JL i w):=by
 obtain⟨s,hs⟩:=gl hi;have cG:=hw.ok.small s (z6 hs);rw[zm.eq_1];refine .go (gi hs) ?_;by_cases ha:a<s.insts.l.length
 ·obtain⟨y,hy⟩:=gl ha;have Pa:=cG.2 y (z6 hy);rw[if_pos (by simpa using ha)];refine .go (gi hy) ?_;by_cases hj:j<y.stops.l.length
  ·obtain⟨x,hx⟩:=gl hj;obtain⟨z,f,hf,fz,g,hg,gz,gl',v,hv,hv3⟩:=ZU hw.ok hs hy hj;rw[if_pos (by simpa using hj)];refine .go (gi hx) ?_;rw[z,if_neg z?];refine .go (gi hf) ?_;rw[fz,if_neg z?];refine .go (gi hg) ?_;rw[gz,if_neg z?,nilF z,ws (k:=j) o?];have kD:=next w hw (.refl i w) o?
   have hm:=hw.ok.may s (z6 hs);have h1:=(hm.may a y hy).inside j x hx;have h2:=(hm.may a y hy).le j x hx;have h3:=(hm.may a y hy).Qr;have lO:=hw.ok.stop s (z6 hs) y (z6 hy) x (z6 hx);have hcut:qJ (jj w.1 x.span.qB x.span.to) (fun _=>True):=(qJ.jj).mono fun _ _=>trivial;have Pc: ∀(u:qa),u.length<=65536->qJ (jL (i:Int) (a:Int) (j:Int) (ql.mk x.span u) false w.1 w.2.1 w.2.2.1 w.2.2.2>>=fun v=>
     if(decide ((v.1.length:Int)>(65536:Int)))=true then some (.inl ((4:Int),v.1,v.2.1,v.2.2.1,v.2.2.2))
     else zm ((i:Int),(a:Int),n,t,((j+1:Nat):Int),v.1,v.2.1,v.2.2.1,v.2.2.2,b3)) (JL i w):=by
    intro u hu;obtain⟨v,k1,k2,k3⟩:=FV hw hs hy hx u hu;refine .go k1 ?_;by_cases c:(v.1.length:Int)>65536
    ·rw[if_pos (by simpa using c)];exact .ret (show (4:Int)≠0 by decide)
    rw[if_neg (by simpa using c)];exact next v ⟨k2,o?⟩ k3 o?
   refine .ite (fun _=>kD) fun _=>?_;refine .go (gi hv) ?_;refine .ite (fun _=>kD) fun _=>?_;refine .ite (fun _=>?_) fun _=>?_;refine .bind (aK x.qR lO.1 t o? 20000) fun r hr=>?_;refine .ite (fun c=>?_) fun _=>?_;exact .ret (show r.2.2≠0 by simpa using c);refine .bind hcut fun q _=>?_;refine .ite (fun _=>kD) fun _=>?_;refine Pc r.1 ?_;rcases hr with hr|hr;exact hr;rw[hr];exact ht;refine .bind hcut fun q _=>?_;exact .ite (fun _=>kD) fun _=>Pc t ht
  rw[if_neg (by simpa using hj)];exact .ret ⟨hw,.refl i w⟩
 rw[if_neg (by simpa using ha)];exact .ret ⟨hw,.refl i w⟩
theorem JL.trans{i:Nat}{w w' :World}(h:XC i w w')(v:(Int×World)⊕World)(hv:JL i w' v):JL i w v:=by rcases v with v|v;exact hv;exact⟨hv.1,h.trans hv.2⟩
theorem num_L4(i a:Nat)(n:Int)(t:qa)(ht:t.length<=65536)(b3:qj): ∀(m j:Nat)(w:World),j+m=2^12->WK w->i<w.2.2.1.length->
  qJ (zm ((i:Int),(a:Int),n,t,(j:Int),w.1,w.2.1,w.2.2.1,w.2.2.2,b3)) (JL i w):=by intro m;induction m with|zero=>intro j w hj hw hi;exact U6 i a j n t ht b3 w hw hi fun w' _ _ h=>o?|succ m ih=>intro j w hj hw hi;refine U6 i a j n t ht b3 w hw hi fun w' hw' hs _=>?_;exact(ih (j+1) w' o? hw' (by rw[hs.len];exact hi)).mono fun v hv=>JL.trans hs v hv
def NumR(i:Nat)(w:World)(v:Int×World):Prop:=v.1≠0\/v.1=0/\WK v.2/\XC i w v.2
theorem fj(i a:Nat)(n:Int)(w:World)(hw:WK w)(s:qb)(hs:w.2.2.1[i]? =some s)(ha:a<s.insts.l.length):
  qJ (uz (i:Int) (a:Int) n w.1 w.2.1 w.2.2.1 w.2.2.2) (NumR i w):=by obtain⟨y,hy⟩:=gl ha;have cG:=hw.ok.small s (z6 hs);have Pa:=cG.2 y (z6 hy);have hi:=(qF hs).1;have Ju:=hw.text;unfold uz;refine .go (gi hs) ?_;refine .go (gi hy) ?_;refine .zx o? ?_;refine .zx (qA v? o?) ?_;obtain⟨held,g1,g2⟩:=num_L0 i a n w hw.ok s y hs hy Pa y.stops.l.length 0 (List.replicate y.stops.l.length false) o? z?;rw[d?];refine .go g1 ?_;refine .bind (S0 y n ⟨false,held⟩ o?) fun src rP=>?_;rcases rP with rP|⟨k,x,rfl,hx⟩;rw[if_pos (by simpa using rP)];exact .ret (.inr ⟨rfl,hw,.refl i w⟩);rw[if_neg z?];have hk:=(qF hx).1;obtain⟨H8,q1,q2,q3⟩:=num_L2 i a n (k:Int) w s y hs hy Pa y.stops.l.length 0 w.2.2.2 o? hw.ok (fun f g _ _ j hj=>o?);refine .go q1 ?_;obtain⟨z,f,hf,fz,g,hg,gz,gl',v,hv,hv3⟩:=ZU (w:=(w.1,w.2.1,w.2.2.1,H8)) q2 hs hy hk;simp only at z hf;have Zf:=q3 f g hf hg k hk v hv;rw[z,if_neg z?];refine .go (gi hf) ?_;rw[fz,if_neg z?];refine .go (gi hg) ?_;rw[gz,if_neg z?];refine .go (gi hv) ?_;refine .go (gi hx) ?_;have hm:=hw.ok.may s (z6 hs);have h1:=(hm.may a y hy).inside k x hx;have h2:=(hm.may a y hy).le k x hx;have h3:=(hm.may a y hy).Qr;refine .bind (qJ.jj (l:=w.1) (lo:=x.span.qB) (hi:=x.span.to) o? o? o?) fun t ht=>?_;have px:=Yv (w:=(w.1,w.2.1,w.2.2.1,H8)) (k:=k) q2 hf hg (v+2) o?;rw[qH (n:=v+2) o? o?,d?,d?,d?];have P9:WK (w.1,w.2.1,w.2.2.1,(⟨false,H8.l.set i ⟨false,f.l.set a ⟨false,g.l.set k (v+2)⟩⟩⟩:Sl (Sl (Sl Int)))):=⟨px,hw.text⟩;refine .bind (num_L4 i a n t o? y (2^12) 0 _ o? P9 hi) fun r hr=>?_;rcases r with r|r;exact .ret (.inl hr);exact .ret (.inr ⟨rfl,hr.1,⟨hr.2.len,hr.2.cur,hr.2.insts⟩⟩)
end Xr
namespace Xr
theorem RX{α:Type}{s:Sl α}(h:QX s<1000000000000000000):s.nil=s.l.isEmpty:=by unfold QX at h;split at h;assumption;omega
theorem RY{α:Type}{s:Sl α}(h:s.nil=s.l.isEmpty):(⟨s.l.isEmpty,s.l⟩:Sl α)=s:=by cases s;simp only at h;rw[h]
abbrev Px(x:qG):Prop:=ru x<=1000000000
theorem Zr{Q:qG->Prop}(h: ∀x,Px x->(∀ y∈x.qz.l,Q y)->Q x): ∀x,Px x->Q x:=by
 have key: ∀n(x:qG),ru x<n->Px x->Q x:=by intro n;induction n with|zero=>intro x hx;omega|succ n ih=>intro x hx hw;refine h x hw fun y hy=>?_;have:=Ge hy;exact ih y o? o?
 exact fun x hw=>key (ru x+1) x o? hw
theorem few_len{x:qG}(h:Px x):x.rows.l.length<=1000000000/\x.qz.l.length<=1000000000/\QX x.rows=0/\QX x.qz=0:=by
 have h1:=yo x;have h2:=xc sf x.rows.l;have h3:=xc ee x.qz.l;have h4: ∀{α:Type}(s:Sl α),QX s=0\/QX s=1000000000000000000:=fun s=>by unfold QX;split<;>simp
 have:=h4 x.rows;have:=h4 x.qz;omega
theorem rxClone: ∀x,Px x->gp x=some x:=by
 refine Zr fun x hx ih=>?_;obtain⟨l1,l2,l3,l4⟩:=few_len hx;have loop: ∀(x1 x2:qG)(r:List qG)(k:Nat)(acc:List qG),x.qz.l.drop k=r->acc.length+r.length<=1000000000->ku (x.qz,(x.qz.l.length:Int),(k:Int),x1,x2,acc)=some (acc++r):=by intro x1 x2 r;induction r with|nil=>intro k acc h _;have:=ze h;rw[ku.eq_1,if_neg v?];simp|cons y r ih2=>intro k acc h ha;obtain⟨g1,g2,g3⟩:=zr h;simp only[h?]at ha;rw[ku.eq_1,if_pos v?,gi g1];simp only[zF,qS,ih y (z6 g1)];rw[if_pos qA,ws o?,ih2 (k+1) _ g2 v?];simp
 have hr:gr x.rows=some x.rows:=by have h:=RX (s:=x.rows) o?;unfold gr;cases hn:x.rows.nil with|true=>rw[if_pos rfl,<- RY h];rw[hn]at h;rw[q1j.1 h.symm];rfl|false=>rw[if_neg z?,if_pos qA,<- RY h];rw[hn]at h;simp only[<- h]
 rw[gp.eq_1,hr];simp only[zF,qS];have:=loop (qG.mk x.kind x.char x.not x.rows x.min x.max x.lazy x.qz) (qG.mk 0 [] false ⟨true,[]⟩ 0 0 false ⟨true,[]⟩) x.qz.l 0 [] rfl (by simpa using l2);rw[show ((0:Nat):Int)=0 from rfl]at this;rw[this];simp only[qS,F?];rw[RY (RX (s:=x.qz) o?)];cases x;rfl
theorem L4{f:zn}(h:vK f<=1000000000):Px f.rx/\f.wy.l.length<=1000000000/\QX f.wy=0:=by
 have h2:=xc ZV f.wy.l;have h4:QX f.wy=0\/QX f.wy=1000000000000000000:=by unfold QX;split<;>simp
 unfold vK at h;unfold Px;omega
theorem stopC_of{x:qq}(h:mG x):Yj x:=by
 obtain⟨h1,_,h3,ho⟩:=h;obtain⟨g1,g2,g3⟩:=L4 h1;have gen: ∀{α:Type}(s:Sl α),QX s=0->s=⟨s.nil,s.l⟩/\(s.nil=true->s=⟨true,[]⟩)/\(s.nil=false->s=⟨false,s.l⟩):=by intro α s h;have:=RX (s:=s) o?;refine⟨rfl,fun c=>?_,fun c=>?_⟩;cases s;simp only at c this;subst c;rw[q1j.1 this.symm];cases s;simp only at c;subst c;rfl
 refine⟨?_, ?_⟩;(have hf:gq x.qR.wy=some x.qR.wy:=by obtain⟨_,k2,k3⟩:=gen x.qR.wy g3;unfold gq;cases hn:x.qR.wy.nil with|true=>rw[if_pos rfl,<- k2 hn]|false=>rw[if_neg z?,if_pos qA,<- k3 hn]);unfold df;simp only[rxClone _ g1,hf,zF,qS];obtain⟨_,k2,k3⟩:=gen x.opts h3;unfold vF;cases hn:x.opts.nil with|true=>rw[if_pos rfl,<- k2 hn]|false=>rw[if_neg z?,if_pos qA,<- k3 hn]
end Xr
namespace Xr
structure JK (w v:World):Prop where
 len:v.2.2.1.length=w.2.2.1.length
 cur: ∀(j:Nat) s,w.2.2.1[j]? =some s-> ∃s',v.2.2.1[j]? =some s' /\s'.cur=s.cur
theorem JK.refl(w:World):JK w w:=⟨rfl,fun j s h=>⟨s,h,rfl⟩⟩
theorem JK.trans{w v u:World}(h1:JK w v)(h2:JK v u):JK w u:=by refine⟨h2.len.trans h1.len,fun j s h=>?_⟩;obtain⟨s',a,b⟩:=h1.cur j s h;obtain⟨s'',c,d⟩:=h2.cur j s' a;exact⟨s'',c,d.trans b⟩
theorem XC.Zj{i:Nat}{w v:World}(h:XC i w v):JK w v:=⟨h.len,h.cur⟩
def MirQ(w:World)(v:(Int×World)⊕World):Prop:=match v with
 | .inl u=>u.1≠0
 | .inr u=>WK u/\JK w u
theorem mir_L4(i a:Nat)(ns:Sl Int)(hn:ns.l.length<=2^12): ∀(d k:Nat)(w:World),k+d=ns.l.length->WK w->(∃ s,w.2.2.1[i]? =some s/\a<s.insts.l.length)->
  qJ (jo ((i:Int),(a:Int),ns,(k:Int),w.1,w.2.1,w.2.2.1,w.2.2.2)) (JL i w):=by intro d;induction d with|zero=>intro k w h hw _;rw[jo.eq_1,if_neg v?];exact .ret ⟨hw,.refl i w⟩|succ d ih=>intro k w h hw hs;obtain⟨s,hs,ha⟩:=hs;obtain⟨x,hx⟩:=gl (l:=ns.l) (k:=k) o?;rw[jo.eq_1,if_pos v?,ws (k:=k) o?];refine .go (gi hx) ?_;refine .bind (fj i a x w hw s hs ha) fun v hv=>?_;rcases hv with hv|⟨h0,h1,h2⟩;rw[if_pos (by simpa using hv)];exact .ret hv;rw[if_neg (by simpa using h0)];obtain⟨s',k1,k2⟩:=h2.insts s hs;exact(ih (k+1) v.2 o? h1 ⟨s',k1,o?⟩).mono fun u hu=>JL.trans h2 u hu
theorem mir_L2(i:Nat): ∀(d a:Nat)(w:World),WK w->(∃ s,w.2.2.1[i]? =some s/\a+d=s.insts.l.length)->
  qJ (jn ((i:Int),(a:Int),w.1,w.2.1,w.2.2.1,w.2.2.2)) (JL i w):=by intro d;induction d with|zero=>intro a w hw hs;obtain⟨s,hs,ha⟩:=hs;rw[jn.eq_1];refine .go (gi hs) ?_;rw[if_neg v?];exact .ret ⟨hw,.refl i w⟩|succ d ih=>intro a w hw hs;obtain⟨s,hs,ha⟩:=hs;have cG:=hw.ok.small s (z6 hs);have nK:=cG.1;obtain⟨y,hy⟩:=gl (l:=s.insts.l) (k:=a) o?;rw[jn.eq_1];refine .go (gi hs) ?_;rw[if_pos v?];refine .go (gi hy) ?_;refine .bind (A5 y (cG.2 y (z6 hy))) fun ns FC=>?_;refine .bind (mir_L4 i a ns FC ns.l.length 0 w o? hw ⟨s,hs,o?⟩) fun v hv=>?_;rcases v with v|v;exact .ret hv;obtain⟨h1,h2⟩:=hv;obtain⟨s',k1,k2⟩:=h2.insts s hs;simp only;rw[ws (k:=a) o?];exact(ih (a+1) v h1 ⟨s',k1,o?⟩).mono fun u hu=>JL.trans h2 u hu
theorem mir_L0: ∀(i:Nat)(w:World),i<=w.2.2.1.length->WK w->qJ (jm ((i:Int)-1,w.1,w.2.1,w.2.2.1,w.2.2.2)) (MirQ w):=by intro i;induction i with|zero=>intro w _ hw;rw[jm.eq_1,if_neg z?];exact .ret ⟨hw,.refl w⟩|succ i ih=>intro w hi hw;have ED:=hw.ok.du;obtain⟨s,hs⟩:=gl (l:=w.2.2.1) (k:=i) o?;rw[show ((i+1:Nat):Int)-1=(i:Int) by omega,jm.eq_1,if_pos z?,qH (n:=(i:Int)-1) o? o?];refine .bind (mir_L2 i s.insts.l.length 0 w hw ⟨s,hs,o?⟩) fun v hv=>?_;rcases v with v|v;exact .ret hv;obtain⟨h1,h2⟩:=hv;refine(ih v (by rw[h2.len];omega) h1).mono fun u hu=>?_;rcases u with u|u;exact hu;exact⟨hu.1,h2.Zj.trans hu.2⟩
theorem WB(w:World)(hw:WK w):qJ (wM w.1 w.2.1 w.2.2.1 w.2.2.2) (fun v=>v.1≠0\/v.1=0/\WK v.2/\JK w v.2):=by have ED:=hw.ok.du;unfold wM;rw[qH (n:=(w.2.2.1.length:Int)-1) o? o?];refine .bind (mir_L0 w.2.2.1.length w (jx _) hw) fun v hv=>?_;rcases v with v|v;exact .ret (.inl hv);exact .ret (.inr ⟨rfl,hv.1,hv.2⟩)
end Xr
namespace Xr
section
variable {α:Type} (key:α->qn)
theorem pos_map(x:α)(s:List α): ∀k,pos key x s k=pos id (key x) (s.map key) k:=by intro k;induction k with|zero=>rfl|succ k ih=>rw[pos,pos,List.getElem?_map];cases s[k]? with|none=>rfl|some y=>simp only[Option.map_some,id,ih]
theorem LY(x:α)(s:List α):(sI key s x).map key=sI id (s.map key) (key x):=by unfold sI;rw[pos_map key x s s.length,s_];simp[List.map_take,List.map_drop]
theorem TC: ∀(r s:List α),(jg key s r).map key=jg id (s.map key) (r.map key):=by intro r;induction r with|nil=>intro s;rfl|cons x r ih=>intro s;show(jg key (sI key s x) r).map key=jg id (sI id (s.map key) (key x)) (r.map key);rw[ih,LY]
end
def gE(e:ql):Int:=(e.text.length:Int)-(e.span.to-e.span.qB)
def sk(l:List ql):Int:=(l.map gE).sum
def wP(l:List ql):Nat:=(l.map fun e=>e.text.length).sum
theorem sumG_le{n:Int}: ∀(l:List ql),(∀ e∈l,e.span.qB<=e.span.to)->sk l<=wP l:=by intro l;induction l with|nil=>intro _;simp[sk,wP]|cons e l ih=>intro h;have h1:=h e z?;have h2:=ih fun e' VR=>h e' (by simp[VR]);simp only[sk,wP,s?,y!,gE]at*;omega
theorem Ee{l r:List ql}(h:l.Perm r):sk l=sk r:=by induction h with|nil=>rfl|cons x _ ih=>simp only[sk,s?,y!]at *; omega|swap x y l=>simp only[sk,s?,y!];omega|trans _ _ ih1 ih2=>exact ih1.trans ih2
theorem Ef{l r:List ql}(h:l.Perm r):wP l=wP r:=by induction h with|nil=>rfl|cons x _ ih=>simp only[wP,s?,y!]at *; omega|swap x y l=>simp only[wP,s?,y!];omega|trans _ _ ih1 ih2=>exact ih1.trans ih2
def LU(n:Int)(p:qn):Prop:=0<=p.qB/\p.qB<=p.to/\p.to<=n
theorem Cf(p:qn)(n:Int): ∃b:Bool,tw p n=some b/\(b=true↔LU n p):=by unfold tw LU;by_cases h1:0<=p.qB<;>by_cases h2:p.qB<=p.to<;>simp[h1,h2]
theorem sumT_sp{n:Int}(hn:0<=n): ∀(l:List ql),(∀ e∈l,LU n e.span)->(wP l:Int)<=sk l+l.length*n:=by intro l;induction l with|nil=>intro _;simp[sk,wP]|cons e l ih=>intro h;have h1:=h e z?;have h2:=ih fun e' VR=>h e' (by simp[VR]);unfold LU at h1;simp only[sk,wP,s?,y!,gE,h?]at*;push_cast at*;rw[Int.add_mul];omega
structure K9 (n:Int) (es:List ql):Prop where
 Kj: ∀e∈es,LU n e.span
 apart:(jg (·.span) [] es).Pairwise fun a b=>a.span.to<=b.span.qB
theorem Ad(n:Int)(es:Sl ql)(hl:es.l.length<2^60): ∀(r:List ql)(k:Nat),es.l.drop k=r-> ∃v,uF (n,es,(k:Int))=some v/\(v= .inl 3\/v= .inr ()/\ ∀e∈r,LU n e.span):=by intro r;induction r with|nil=>intro k h;have:=ze h;rw[uF.eq_1,if_neg v?];exact⟨_,rfl,.inr ⟨rfl,z?⟩⟩|cons e r ih=>intro k h;obtain⟨h1,h2,h3⟩:=zr h;obtain⟨b,g1,g2⟩:=Cf e.span n;rw[uF.eq_1,if_pos v?,gi h1,ws (k:=k) o?];simp only[zF,qS,g1];cases b with|false=>exact⟨_,rfl,.inl rfl⟩|true=>obtain⟨v,q1,q2⟩:=ih (k+1) h2;rw[if_neg z?,q1];refine⟨v,rfl, ?_⟩;rcases q2 with q2|⟨q2,q3⟩;exact .inl q2;refine .inr ⟨q2,fun e' VR=>?_⟩;rcases U?.1 VR with rfl|VR;exact g2.1 rfl;exact q3 e' VR
theorem E8(es:Sl ql)(hl:es.l.length<=2^20): ∀(r:List ql)(k:Nat)(out:List qn),es.l.drop k=r->out.length=k->gS (es,(k:Int),out)=some (out++r.map (·.span)):=by intro r;induction r with|nil=>intro k out h _;have:=ze h;rw[gS.eq_1,if_neg v?];simp|cons e r ih=>intro k out h ho;obtain⟨h1,h2,h3⟩:=zr h;rw[gS.eq_1,if_pos v?,gi h1,ws (k:=k) o?];simp only[zF,qS];rw[if_pos qA,ih (k+1) (out++[e.span]) h2 v?];simp
theorem Oq(s:Sl qn)(hl:s.l.length<2^60): ∀(d k:Nat),k+d=s.l.length-> ∃v,yQ (s,(k:Int))=some v/\(v= .inl false\/v= .inr ()/\ ∀(j:Nat) x,k<=j->s.l[j]? =some x->x.qB<=x.to/\(∀ y,0<j->s.l[j-1]? =some y->y.to<=x.qB)):=by intro d;induction d with|zero=>intro k h;rw[yQ.eq_1,if_neg v?];exact⟨_,rfl,.inr ⟨rfl,fun j x hj hx=>by have:=(qF hx).1;omega⟩⟩|succ d ih=>intro k h;obtain⟨x,hx⟩:=gl (l:=s.l) (k:=k) o?;obtain⟨v,q1,q2⟩:=ih (k+1) o?;rw[yQ.eq_1,if_pos v?,gi hx,ws (k:=k) o?];simp only[zF,qS];by_cases c1:x.qB>x.to;rw[if_pos (by simpa using c1)];exact⟨_,rfl,.inl rfl⟩;rw[if_neg (by simpa using c1)];cases k with|zero=>rw[if_neg z?,q1];refine⟨v,rfl, ?_⟩;rcases q2 with q2|⟨q2,q3⟩;exact .inl q2;refine .inr ⟨q2,fun j z hj hz=>?_⟩;by_cases c:j=0;subst c;rw[hx]at hz;cases hz;exact⟨o?,fun y hy=>o?⟩;exact q3 j z o? hz|succ k=>obtain⟨y,hy⟩:=gl (l:=s.l) (k:=k) o?;rw[if_pos (by simp<;>omega),show q?.wrap (((k+1:Nat):Int)-1)=(k:Int)from by rw[qH o? o?];omega,gi hy];simp only[qS];by_cases c2:x.qB<=y.qB;rw[if_pos (by simpa using c2)];exact⟨_,rfl,.inl rfl⟩;rw[if_neg (by simpa using c2)];by_cases c3:x.qB<y.to;rw[if_pos (by simpa using c3)];exact⟨_,rfl,.inl rfl⟩;rw[if_neg (by simpa using c3),q1];refine⟨v,rfl, ?_⟩;rcases q2 with q2|⟨q2,q3⟩;exact .inl q2;refine .inr ⟨q2,fun j z hj hz=>?_⟩;by_cases c:j=k+1;subst c;rw[hx]at hz;cases hz;refine⟨o?,fun y' _ LM=>?_⟩;rw[K_,hy]at LM;cases LM;omega;exact q3 j z o? hz
theorem KW(s:List qn)(h: ∀(j:Nat) x,s[j]? =some x->x.qB<=x.to/\(∀ y,0<j->s[j-1]? =some y->y.to<=x.qB)):s.Pairwise fun a b=>a.to<=b.qB:=by
 rw[b!];intro i j hi hj EF;have key: ∀(d:Nat)(x:qn),s[i+1+d]? =some x->(s[i]'hi).to<=x.qB:=by intro d;induction d with|zero=>intro x hx;exact(h (i+1) x hx).2 _ o? (by rw[K_];exact wu hi)|succ d ih=>intro x hx;have hl:=(qF hx).1;obtain⟨y,hy⟩:=gl (l:=s) (k:=i+1+d) o?;have h1:=ih y hy;have h2:=(h (i+1+d) y hy).1;have h3:=(h (i+1+(d+1)) x hx).2 y o? (by rw[show i+1+(d+1)-1=i+1+d by omega];exact hy);omega
 have:=key (j-(i+1)) (s[j]'hj) (by rw[show i+1+(j-(i+1))=j by omega];exact wu hj);exact this
theorem L9(es:Sl ql)(hl:es.l.length<=2^20)(hb: ∀e∈es.l,-(2^36)<=e.span.to-e.span.qB/\e.span.to-e.span.qB<=2^36): ∀(r:List ql)(k:Nat)(n:Int),es.l.drop k=r-> -(k:Int)*2^38-2^40<=n->n+wP r+r.length*2^36<=2^61->gR (n,es,(k:Int))=some (n+sk r):=by intro r;induction r with|nil=>intro k n h _ _;have:=ze h;rw[gR.eq_1,if_neg v?];simp[sk]|cons e r ih=>(intro k n h EH Tt;obtain⟨h1,h2,h3⟩:=zr h;obtain⟨b2,b3⟩:=hb e (z6 h1);have JZ:(k:Int)<=2^20:=o?;have hT:(wP (e::r):Int)=e.text.length+wP r:=by simp[wP]);simp only[h?]at Tt;rw[hT]at Tt;rw[gR.eq_1,if_pos v?,gi h1,ws (k:=k) o?];simp only[zF,qS];rw[qH (n:=n+(e.text.length:Int)) o? o?,qH (n:=e.span.to-e.span.qB) o? o?,qH (n:=n+(e.text.length:Int)-(e.span.to-e.span.qB)) o? o?];rw[ih (k+1) _ h2 (by push_cast;omega) (by push_cast;omega)];simp only[sk,s?,y!,gE];congr 1;omega
theorem Cg(n:Int)(hn:0<=n/\n<=2^36)(es:Sl ql)(hl:es.l.length<=2^19)(ht:wP es.l<=2^60):qJ (iN n es) (fun v=>v=0->K9 n es.l/\n+sk es.l<=65536):=by
 have hR:qJ (d9 n es) (fun v=>v=0->K9 n es.l):=by unfold d9;obtain⟨v,g1,g2⟩:=Ad n es o? es.l 0 rfl;refine .go g1 ?_;rcases g2 with rfl|⟨rfl,g2⟩;exact .ret fun h=>absurd h (by decide);(have hs:ah es=some ⟨(es.l.map (·.span)).isEmpty,es.l.map (·.span)⟩:=by unfold ah;rw[show (0:Int)=((0:Nat):Int)from rfl,E8 es o? es.l 0 [] rfl rfl];rfl);(refine .go hs ?_;have cp:=(re id (es.l.map (·.span)) []).length_eq;simp only[F?,s_]at cp;have hA:qJ (a7 ⟨(es.l.map (·.span)).isEmpty,es.l.map (·.span)⟩) (fun b=>b=true->(jg id [] (es.l.map (·.span))).Pairwise fun a b=>a.to<=b.qB):=by unfold a7;refine .go (MG _ v?) ?_;obtain⟨w,q1,q2⟩:=Oq ⟨(jg id [] (es.l.map (·.span))).isEmpty,jg id [] (es.l.map (·.span))⟩ u? (jg id [] (es.l.map (·.span))).length 0 z?;refine .go q1 ?_;rcases q2 with rfl|⟨rfl,q2⟩;exact .ret z?;exact .ret fun _=>KW _ fun j x hx=>q2 j x o? hx);refine .bind hA fun b hb=>?_;refine .ite (fun _=> .ret fun h=>absurd h (by decide)) fun c=> .ret fun _=>⟨g2, ?_⟩;have js:=hb (by simpa using c);rw[show jg id [] (es.l.map (·.span))=(jg (·.span) [] es.l).map (·.span)from(TC (fun x:ql=>x.span) es.l []).symm]at js;exact List.pairwise_map.1 js
 unfold iN;refine .bind hR fun v hv=>?_;refine .ite (fun c=> .ret fun h=>absurd h (by simpa using c)) fun c=>?_;have dn:=hv (by simpa using c);have hG:aa n es=some (n+sk es.l):=by unfold aa;rw[show (0:Int)=((0:Nat):Int)from rfl,L9 es o? (fun e he=>⟨by have:=dn.Kj e he;unfold LU at this;omega,by have:=dn.Kj e he;unfold LU at this;omega⟩) es.l 0 n rfl o? o?];rfl
 refine .go hG ?_;refine .ite (fun _=> .ret fun h=>absurd h (by decide)) fun c=> .ret fun _=>⟨dn,by simpa using c⟩
end Xr
namespace Xr
abbrev WO(w:World):=Sy mG w.1 w.2.1 w.2.2.1 w.2.2.2
theorem Sy.take{w:World}(h:WO w)(n:Nat):Sy mG w.1 w.2.1 (w.2.2.1.take n) ⟨w.2.2.2.nil,w.2.2.2.l.take n⟩:=by
 have get: ∀(j:Nat) s,(w.2.2.1.take n)[j]? =some s->w.2.2.1[j]? =some s:=fun j s hs=>by exact tW
 refine⟨h.blen,h.ne,h.Y1,h.SD,h.Kj,by have:=h.du;simp;omega,fun s hs=>h.small s (W? hs),fun s hs=>h.may s (W? hs),by simp[h.W8],fun c=>h.fnn fun c2=>c (by rw[c2];simp), ?_,fun s hs=>h.stop s (W? hs)⟩;intro j s f hs hf;have hj:=(qF hf).1;simp at hj;simp only at hf;rw[V? o?]at hf;exact h.each j s f (get j s hs) hf
theorem lead_L2(n:Nat)(l:Sl ql)(n0:Int)(GJ:0<=n0/\n0<=65536)(hT:wP l.l<=2^36)(dK: ∀e∈l.l,0<=e.span.qB/\e.span.qB<=e.span.to)(hap:l.l.Pairwise fun a b=>a.span.to<=b.span.qB)(FA:l.l.length<=2^20):
  ∀(k:Nat)(w:World),k<=l.l.length->WO w->w.2.2.1.length=n->(w.1.length:Int)=n0+sk (l.l.drop k)->(∀ e∈l.l.take k,e.span.to<=w.1.length)->
  qJ (xO ((n:Int),l,(k:Int)-1,w.1,w.2.1,w.2.2.1,w.2.2.2)) (fun v:World=>WO v/\(v.1.length:Int)=n0+sk l.l/\JK w v):=by
 intro k;induction k with
  |zero=>intro w _ hw _ hlen _;rw[xO.eq_1,if_neg z?];exact .ret ⟨hw,by simpa using hlen,.refl w⟩
  |succ k ih=>
   (intro w hk hw hwn hlen hto;obtain⟨e,he⟩:=gl (l:=l.l) (k:=k) o?;have hem:=z6 he;have hei:=dK e hem;have hd:l.l.drop k=e::l.l.drop (k+1):=by have ZG:=(qF he).1;rw[x_ ZG];rw[wu ZG]at he;cases he;rfl);(have htk:e∈l.l.take (k+1):=by rw[List.take_add_one,he];simp);(have dC:=hto e htk;have hsT: ∀j,wP (l.l.drop j)<=wP l.l:=by intro j;have:=f_ j l.l;have h5:=congrArg wP this;simp only[wP,Y!,List.sum_append]at h5 |-;omega);(have hsg:=sumG_le (n:=0) (l.l.drop (k+1)) fun e' VR=>(dK e' (List.mem_of_mem_drop VR)).2;have ht1:=hsT (k+1);have ht0:=hsT k;have het:e.text.length<=wP (l.l.drop k):=by rw[hd];simp only[wP,s?,y!];omega);(have hE:kM e w.1.length:=⟨o?,o?,o?,o?,o?⟩;have hnext: ∀(v:World),WO v->v.1=newText w.1 e->JK w v->qJ (xO ((n:Int),l,(k:Int)-1,v.1,v.2.1,v.2.2.1,v.2.2.2)) (fun v:World=>WO v/\(v.1.length:Int)=n0+sk l.l/\JK w v):=by intro v hv ht hs;have Nk:=JA w.1 e hE;rw[<- ht]at Nk;refine(ih v o? hv (by rw[hs.len];exact hwn) ?_ ?_).mono fun u hu=>⟨hu.1,hu.2.1,hs.trans hu.2.2⟩;rw[hd];simp only[sk,s?,y!,gE]at hlen |-;omega;(intro e' VR;obtain⟨j,hj⟩:=kb VR;have Vq:j<k:=by have:=(qF hj).1;simp at this;omega);rw[V? Vq]at hj;have Vr:=(qF hj).1;have pf:=(qF he).1;have:=b!.1 hap j k Vr pf Vq;rw[wu Vr]at hj;rw[wu pf]at he;cases hj;cases he;omega);rw[show ((k+1:Nat):Int)-1=(k:Int) by omega,xO.eq_1,if_pos z?,show q?.wrap ((k:Int)-1)=(k:Int)-1 from qH o? o?];have ED:=hw.du;by_cases hn:0<n
   ·obtain⟨s,hs⟩:=gl (l:=w.2.2.1) (k:=n-1) o?;rw[if_pos (by simpa using hn),show q?.wrap ((n:Int)-1)=((n-1:Nat):Int)from by rw[qH o? o?];omega];refine .go (gi hs) ?_;refine .go (gi he) ?_;refine .bind (J9 s e.span (hw.small s (z6 hs))) fun o ho=>?_;obtain⟨v,g1,g2⟩:=TJ Q6 hw hE o? ((n-1:Nat):Int) o.1 o.2 true (by
     rcases ho with rfl|ho
     ·exact .inl ⟨rfl,rfl⟩
     have:=ho.nat
     obtain⟨a',k',i,x,q1,q2,q3,q4,_,_,q5⟩:=ho
     exact .inr ⟨n-1,s,rfl,hs,o?,.inr ⟨a',k',i,x,q1,q2,q3,q4,q5⟩⟩)
    refine .go g1 ?_;exact hnext v g2.ok g2.text ⟨g2.len,g2.cur⟩
   rw[if_neg (by simpa using hn)];refine .go (gi he) ?_;obtain⟨v,g1,g2⟩:=TJ Q6 hw hE o? (q?.wrap ((n:Int)-1)) (-1) (-1) true (.inl ⟨rfl,rfl⟩);refine .go g1 ?_;exact hnext v g2.ok g2.text ⟨g2.len,g2.cur⟩
theorem lead_L0(es:Sl ql)(he:es.l.length<2^60)(w:qa)(w2:Sl qy)(ss:List qb)(fl:Sl (Sl (Sl Int)))(hs: ∀s∈ss,xH s)(ED:ss.length<=16): ∀k,k<=ss.length->qJ (k9 (es,(k:Int),w,w2,ss,fl)) (fun v=> ∃n:Nat,v=n/\n<=k):=by intro k;induction k with|zero=>intro _;rw[k9.eq_1,if_neg z?];exact .ret ⟨0,rfl,jx _⟩|succ k ih=>intro hk;obtain⟨s,nK⟩:=gl (l:=ss) (k:=k) o?;rw[k9.eq_1,if_pos (by simp<;>omega),show q?.wrap (((k+1:Nat):Int)-1)=(k:Int)from by rw[qH o? o?];omega];refine .go (gi nK) ?_;refine .bind (Ea s es (hs s (z6 nK)) he) fun b _=>?_;refine .ite (fun _=>?_) fun _=> .ret ⟨k+1,rfl,jx _⟩;exact tW
structure Led (w:World) (es:List ql) (v:World):Prop where
 ok:WO v
 text:(v.1.length:Int)=w.1.length+sk es
 len:v.2.2.1.length<=w.2.2.1.length
 cur: ∀(j:Nat) s',v.2.2.1[j]? =some s' -> ∃s,w.2.2.1[j]? =some s/\s'.cur=s.cur
theorem cJ(w:World)(hw:WO w)(hn:w.1.length<=65536)(es:Sl ql)(hE:K9 w.1.length es.l)(hT:wP es.l<=2^36)(hl:es.l.length<=2^19):qJ (yW es w.1 w.2.1 w.2.2.1 w.2.2.2) (Led w es.l):=by
 have hp:=re (·.span) es.l [];simp only[F?]at hp;have cp:=hp.length_eq;unfold yW;refine .bind (lead_L0 es o? w.1 w.2.1 w.2.2.1 w.2.2.2 hw.small hw.du w.2.2.1.length (jx _)) fun v hv=>?_;obtain⟨n,rfl,hnl⟩:=hv;refine .go (JT _ _ hnl) ?_;refine .go (JT _ _ (by rw[hw.W8];exact hnl)) ?_;refine .go (MH es o?) ?_;have P9:=hw.take n;have sG: ∀e∈jg (·.span) [] es.l,LU w.1.length e.span:=fun e he=>hE.Kj e (hp.mem_iff.1 he);have hd0:sk ((jg (·.span) [] es.l).drop (jg (·.span) [] es.l).length)=0:=by simp[sk]
 have h:=lead_L2 n ⟨(jg (·.span) [] es.l).isEmpty,jg (·.span) [] es.l⟩ w.1.length o? (by simp only;rw[Ef hp];exact hT) (fun e he=>by have:=sG e he;unfold LU at this;omega) hE.apart u?
  (jg (·.span) [] es.l).length (w.1,w.2.1,w.2.2.1.take n,⟨w.2.2.2.nil,w.2.2.2.l.take n⟩) (jx _) P9 v? (by simp only;rw[hd0];omega) (fun e he=>by have:=sG e (W? he);unfold LU at this;exact this.2.2)
 rw[qH (n:=((jg (·.span) [] es.l).length:Int)-1) o? o?];refine .bind h fun u hu=> .ret ?_;change Led w es.l u;obtain⟨h1,h2,h3⟩:=hu;simp only[Ee hp]at h2;refine⟨h1,h2, ?_, ?_⟩;have:=h3.len;exact tW;intro j s' oQ;have hj:=(qF oQ).1;have hlen:=h3.len;simp only[List.length_take]at hlen;obtain⟨s,hs⟩:=gl (l:=w.2.2.1) (k:=j) o?;have lO:(w.2.2.1.take n)[j]? =some s:=by rw[V? o?];exact hs
 obtain⟨s2,k1,k2⟩:=h3.cur j s lO;exact tW
end Xr
end Go.Proofs.YtnojdepmnnebnaaGreat
