/-
  Edits are laid, from the last to the first: the document's Lead.
-/
import Derived.Test.YtoflcafolmmaaaaGreatQam
import Derived.Test.YtoflcafolmmaaaaGreatQal
open Go.IntKind renaming i64->q?
open Go.Proofs.YtoflcafolmmaaaaGreat.qJ renaming get->n_
open Int renaming toNat_natCast->c?,le_refl->u!,le_trans->I'
open List renaming length_cons->g?,mem_append->m?,length_append->t?,map_cons->s?,mem_singleton->d?,length_nil->e?,mem_of_mem_take->W?,getElem?_take_of_lt->Y?,mem_cons->U?,nil_append->F?,map_nil->L?,sum_cons->v!,pairwise_iff_getElem->b!,mem_or_eq_of_mem_set->l!,map_append->Y!,countP_cons->O!,drop_eq_getElem_cons->z_,length_map->m_,take_append_drop->s_,isEmpty_iff->q0z
open Nat renaming strongRecOn->r?,add_sub_cancel->Z_
open Option renaming bind_eq_some_iff->R!
set_option linter.unusedSimpArgs false
set_option linter.unusedVariables false
set_option maxHeartbeats 1000000
namespace Go.Proofs.YtoflcafolmmaaaaGreat
open Go Go.Gm
theorem Yw(fs:Sl zs)(hl:fs.l.length<=1099511627776):qJ (dH fs) (fun c=>c=true-> ∀f∈fs.l,0<=f.n):=by
 have key: ∀(r:List zs)(k:Nat),fs.l.drop k=r->qJ (xG (fs,(k:Int))) (fun v=>(v= .inl true->False)/\(v= .inr ()-> ∀f∈r,0<=f.n)):=by intro r;induction r with|nil=>intro k hk;rw[xG.eq_1,if_neg (by simpa using yq hk)];exact .ret ⟨z?,z?⟩|cons x r ih=>(intro k hk;obtain⟨a1,a2,a3,a4⟩:=wV hk;have ih:=ih (k+1) a3;have next:0<=x.n->qJ (xG (fs,((k+1:Nat):Int))) (fun v=>(v= .inl true->False)/\(v= .inr ()-> ∀f∈x::r,0<=f.n)):=by intro hx;refine ih.mono fun v h=>⟨h.1,fun hw z hz=>?_⟩;rcases U?.1 hz with rfl|hz;exact hx;exact h.2 hw z hz);(have prev: ¬(k:Int)=0-> ∀{f:zs->Option (Bool⊕Unit)}{Q:Bool⊕Unit->Prop},(∀ y,qJ (f y) Q)->qJ (qh fs.l (q?.wrap ((k:Int)-1))>>=f) Q:=by intro h f Q hf;(repeat (first|(rw [qG];rotate_left;omega;omega)|(rw [xC];rotate_left;omega;omega)));exact .bind n_ fun y _=>hf y);rw[xG.eq_1,if_pos (by simpa using a1),lg o? a1];refine .go a2 ?_;(repeat' (first|exact .ret ⟨by simp,by simp⟩|(refine .tI ?_ ?_<;>intro hT)|(refine prev ‹_› fun y=>?_)|refine .bind (Wp _) fun v _=>?_));all_goals exact next (by omega)
 unfold dH;exact tW
theorem Yx(f:zn)(hw:vq f<=1099511627776):qJ (dI f) (fun c=>c=true->WF f.rx):=by have hl:=zZ ZK f.wo.l;unfold vq at hw;unfold dI;have:= @Xp;have:= @Yw;exact tW
def Q8:qE:=qE.mk (0:Int) ([]:qa) false (⟨true,[]⟩:(Sl qV)) (0:Int) (0:Int) false (⟨true,[]⟩:(Sl qE))
def da:zn:=zn.mk Q8 (⟨true,([]:List zs)⟩:(Sl zs)) false false
theorem Au(x:qE):qJ (gC (x,Q8)) (fun _=>True):=by rw[gC.eq_1];refine .tI ?_ ?_<;>intro hT;exact .ret trivial;have h:=hT;simp only[Q8,e?]at h;have h1:x.rows.l.length=0:=o?;have h2:x.qz.l.length=0:=o?;refine .go (a:= .inr ()) (by rw[yK.eq_1];simp[h1]) ?_;refine .go (a:= .inr ()) (by rw[kT.eq_1];simp[h2]) ?_;exact .ret trivial
theorem XE(f:zn):qJ (kl f da) (fun _=>True):=by unfold kl;refine .bind (Au f.rx) fun v _=>?_;refine .tI ?_ ?_<;>intro hT;exact .ret trivial;have h:=hT;simp only[da,e?]at h;have h1:f.wo.l.length=0:=o?;refine .go (a:= .inr ()) (by rw[kb.eq_1];simp[h1]) ?_;exact .ret trivial
inductive WS:qC->Prop
 |mk (x:qC) (hk: ∀y∈x.qz.l,WS y) (h0:x.kind=0->x.qz.l=[]) (h2:x.kind=2->x.has=false/\x.qL=false/\x.qz.l=[]/\0<x.opts.l.length)
   (h1:x.kind=1\/x.kind=3->x.opts.l=[]/\(x.has=true->x.qL=false)/\(x.has=false->x.qz.l=[])) (hd:0<=x.kind/\x.kind<=3)
   (hn:x.kind=1\/x.kind=2->0<=x.n/\x.n<=9999):WS x
def Ki(l:Sl qC):Prop:= ∀x∈l.l,WS x
theorem snS_ind{P:Sl qC->Prop}(h: ∀l,(∀ x∈l.l,P x.qz)->P l): ∀l,P l:=by
 have key: ∀n(l:Sl qC),qO (l.l.map pO)<n->P l:=by intro n;induction n with|zero=>intro l hl;omega|succ n ih=>intro l hl;have:= @xK;have:= @nG;exact tW
 exact fun l=>key _ l (Nat.lt_succ_self _)
abbrev eh(l:Sl qC):Prop:=qO (l.l.map pO)<=1099511627775
theorem Tl{l:Sl qC}(h:eh l):l.l.length<=1099511627775:=by have:=zZ cf l.l;unfold eh at h;omega
theorem Wj{l:Sl qC}(h:eh l){x:qC}(hx:x∈l.l):pO x<=1099511627775:=by have:=xK (f:=pO) hx;unfold eh at h;omega
theorem Nb{l:Sl qC}(h:eh l){x:qC}(hx:x∈l.l):eh x.qz:=by have:=Wj h hx;have:=nG x;unfold eh;omega
theorem VG(s:qa)(hs:s.length<=1099511627776): ∀(r:qa)(k:Nat),s.drop k=r->qJ (xS (s,(k:Int))) (fun _=>True):=by intro r;induction r with|nil=>intro k hk;rw[xS.eq_1,if_neg (by simpa using yq hk)];exact .ret trivial|cons b r ih=>intro k hk;obtain⟨a1,a2,a3,a4⟩:=wV hk;have h:=ih (k+1) a3;rw[xS.eq_1,if_pos (by simpa using a1),lg o? a1];refine .go a2 ?_;refine .bind (tA b) fun v hv=>?_;repeat' (first|exact h|exact .ret trivial|(refine .tI ?_ ?_<;>intro hT)|refine .bind (ma b) fun w _=>?_)
theorem Tt(s:qa)(hs:s.length<=1099511627776):qJ (ji s) (fun _=>True):=by unfold ji;refine .tI ?_ ?_<;>intro hT;exact .ret trivial;refine .bind (VG s hs s 0 rfl) fun v hv=>?_;rcases v with v|v<;>exact .ret trivial
theorem RC(x:qC)(hw:pO x<=1099511627775)(ih:qJ (bh x.qz) (fun c=>c=true->Ki x.qz)):
  qJ (kB x) (fun c=>c=true->x.opts.l=[]/\(x.has=true->x.qL=false)/\(x.has=false->x.qz.l=[])/\Ki x.qz):=by
 have hx:=nG x;rw[kB.eq_1];refine .tI ?_ ?_<;>intro hT;exact .ret z?;have h1:x.opts.l=[]:=len_nil o?;refine .tI ?_ ?_<;>intro hT;have hh:=hT;refine .tI ?_ ?_<;>intro hT;exact .ret z?;have ht:=hT;refine .bind (XE x.qR) fun v _=>?_;refine .tI ?_ ?_<;>intro hT;refine .bind ih fun v hv=>?_;exact .ret fun h=>⟨h1,fun _=>ht,fun h=>(by rw[hh]at h;cases h),hv h⟩;exact .ret z?;have hh:=hT;refine .tI ?_ ?_<;>intro hT;exact .ret z?;have hk:x.qz.l=[]:=len_nil o?;have hka:Ki x.qz:=fun y hy=>by rw[hk]at hy;cases hy
 refine .tI ?_ ?_<;>intro hT;refine .bind (Yx x.qR o?) fun v hv=>?_;exact .ret fun _=>⟨h1,fun h=>(by rw[hh]at h;cases h),fun _=>hk,hka⟩;refine .bind (XE x.qR) fun v _=>?_;refine .tI ?_ ?_<;>intro hT;refine .bind ih fun v hv=>?_;exact .ret fun _=>⟨h1,fun h=>(by rw[hh]at h;cases h),fun _=>hk,hka⟩;exact .ret z?
theorem Fz: ∀l,eh l->qJ (bh l) (fun c=>c=true->Ki l):=by
 apply snS_ind (P:=fun l=>eh l->qJ (bh l) (fun c=>c=true->Ki l));intro l ih0 hw;have hl:=Tl hw;have key: ∀(r:List qC)(k:Nat),l.l.drop k=r->qJ (zA (l,(k:Int))) (fun v=>(v= .inl true->False)/\(v= .inr ()-> ∀y∈r,WS y)):=by
  intro r;induction r with
   |nil=>intro k hd;rw[zA.eq_1,if_neg (by simpa using yq hd)];exact .ret ⟨z?,z?⟩
   |cons x r ih=>
    intro k hd;obtain⟨a1,a2,a3,a4⟩:=wV hd;have hx:=nG x;have hxw:=Wj hw a4;have Z5:=RC x hxw (ih0 x a4 (Nb hw a4));have ih:=ih (k+1) a3;have next:WS x->qJ (zA (l,((k+1:Nat):Int))) (fun v=>(v= .inl true->False)/\(v= .inr ()-> ∀y∈x::r,WS y)):=by intro hx;refine ih.mono fun v h=>⟨h.1,fun hw z hz=>?_⟩;rcases U?.1 hz with rfl|hz;exact hx;exact h.2 hw z hz
    have stop: ∀{f:Bool->Option (Bool⊕Unit)},(∀ v,(v=true->x.opts.l=[]/\(x.has=true->x.qL=false)/\(x.has=false->x.qz.l=[])/\Ki x.qz)->qJ (f v) (fun v=>(v= .inl true->False)/\(v= .inr ()-> ∀y∈x::r,WS y)))->
      qJ (kB x>>=f) (fun v=>(v= .inl true->False)/\(v= .inr ()-> ∀y∈x::r,WS y)):=fun hf=>qJ.bind Z5 hf
    have prev: ¬(k:Int)=0-> ∀{f:qC->Option (Bool⊕Unit)},(∀ y,qJ (f y) (fun v=>(v= .inl true->False)/\(v= .inr ()-> ∀y∈x::r,WS y)))->qJ (qh l.l (q?.wrap ((k:Int)-1))>>=f) (fun v=>(v= .inl true->False)/\(v= .inr ()-> ∀y∈x::r,WS y)):=by intro h f hf;(repeat (first|(rw [qG];rotate_left;omega;omega)|(rw [xC];rotate_left;omega;omega)));exact .bind n_ fun y _=>hf y
    have w1:x.kind=1->0<=x.n->x.n<=9999->(x.opts.l=[]/\(x.has=true->x.qL=false)/\(x.has=false->x.qz.l=[])/\Ki x.qz)->WS x:=fun a b c d=>
     .mk x d.2.2.2 (fun h=>o?) (fun h=>o?) (fun _=>⟨d.1,d.2.1,d.2.2.1⟩) o? (fun _=>⟨b,c⟩)
    have w3:x.kind=3->(x.opts.l=[]/\(x.has=true->x.qL=false)/\(x.has=false->x.qz.l=[])/\Ki x.qz)->WS x:=fun a d=>
     .mk x d.2.2.2 (fun h=>o?) (fun h=>o?) (fun _=>⟨d.1,d.2.1,d.2.2.1⟩) o? (fun h=>o?)
    have w0:x.kind=0->x.qz.l=[]->WS x:=fun a b=>
     .mk x (by simp[b]) (fun _=>b) (fun h=>o?) (fun h=>o?) o? (fun h=>o?)
    have w2:x.kind=2->x.qz.l=[]->x.has=false->x.qL=false->0<x.opts.l.length->0<=x.n->x.n<=9999->WS x:=fun a b c d e f g=>
     .mk x (by simp[b]) (fun h=>o?) (fun _=>⟨c,d,b,e⟩) (fun h=>o?) o? (fun _=>⟨f,g⟩)
    have hname:=Tt x.text o?;rw[zA.eq_1,if_pos (by simpa using a1),lg o? a1];refine .go a2 ?_;(repeat' (first|exact .ret ⟨by simp,by simp⟩|(refine .tI ?_ ?_<;>intro hT)|(refine prev ‹_› fun y=>?_)|refine .bind (XE x.qR) fun v _=>?_|refine .bind hname fun v _=>?_|refine stop fun v hv=>?_));(all_goals refine next ?_);all_goals first|exact w1 (by omega) (by omega) (by omega) (by simp_all)|exact w3 (by omega) (by simp_all)|exact w0 (by omega) (len_nil (by omega))|exact w2 (by omega) (len_nil (by omega)) (by simp_all) (by simp_all) (by omega) (by omega) (by omega)
 rw[bh.eq_1];refine .bind (key l.l 0 rfl) fun v hv=>?_;rcases v with v|v;(exact .ret fun h=>by subst h;exact absurd rfl hv.1);exact .ret fun _=>hv.2 rfl
theorem Y0(l:Sl qC)(hw:qO (l.l.map pO)<=100000000):qJ (dK l) (fun c=>c=true->Ki l):=by unfold dK;refine .bind (Bz _ l (jv _) hw) fun v _=>?_;refine .tI ?_ ?_<;>intro hT;refine .bind (Fz l (by unfold eh;omega)) fun v hv=>?_;exact .ret hv;exact .ret z?
theorem F2: ∀(m:Nat)(i:Int)(b:List UInt8),m=(b.length-i).toNat->0<=i->b.length<=1099511627776->qJ (kS (i,b)) (fun r=>r.length=b.length):=by intro m;induction m using r? with|_ m ih=>intro i b hm h0 hB;rw[kS.eq_1];exact tW
theorem Z3(s:qa)(hs:s.length<=1099511627776):qJ (gB s) (fun r=>r.length=s.length):=by unfold gB;have:= @F2;exact tW
theorem RN: ∀(m:Nat)(i:Int)(b:List UInt8),m=(b.length-i).toNat->0<=i->b.length<=1099511627776->qJ (vt (i,b)) (fun r=>r.length=b.length):=by intro m;induction m using r? with|_ m ih=>intro i b hm h0 hB;rw[vt.eq_1];exact tW
theorem Mx(s:qa)(hs:s.length<=1099511627776):qJ (cG s) (fun r=>r.length=s.length):=by unfold cG;have:= @RN;exact tW
theorem Zp(c:qa):qJ (tB c) (fun _=>True):=by unfold tB;refine .tI ?_ ?_<;>intro hT;refine .bind .get fun b hb=>?_;refine .bind (tA b) fun v _=>?_;refine .tI ?_ ?_<;>intro hT;exact .ret trivial;refine .bind (ma b) fun v _=>?_;refine .tI ?_ ?_<;>intro hT;exact .ret trivial;exact .ret trivial;exact .ret trivial
theorem Wb(rows:Sl qV)(hl:rows.l.length<=1099511627776)(c:qa):qJ (fp rows c) (fun _=>True):=by
 have key: ∀(r:List qV)(k:Nat),rows.l.drop k=r->qJ (bE (rows,c,(k:Int))) (fun _=>True):=by intro r;induction r with|nil=>intro k hk;rw[bE.eq_1,if_neg (by simpa using yq hk)];exact .ret trivial|cons x r ih=>intro k hk;obtain⟨a1,a2,a3,a4⟩:=wV hk;have ih:=ih (k+1) a3;rw[bE.eq_1,if_pos (by simpa using a1),lg o? a1];exact tW
 unfold fp;refine .bind (key rows.l 0 rfl) fun v _=>?_;rcases v with v|v<;>exact .ret trivial
theorem F5(rows:Sl qV)(hl:rows.l.length<=1099511627776)(n f:Bool)(c:qa)(hc:c.length<=1099511627776):qJ (ic rows n f c) (fun _=>True):=by unfold ic;refine .bind (Wb rows hl c) fun v _=>?_;refine .tI ?_ ?_<;>intro hT;refine .bind (Z3 c hc) fun d _=>?_;refine .bind (Wb rows hl d) fun w _=>?_;refine .tI ?_ ?_<;>intro hT;exact .ret trivial;refine .bind (Mx c hc) fun d _=>?_;refine .bind (Wb rows hl d) fun w _=>?_;refine .tI ?_ ?_<;>intro hT;exact .ret trivial;exact .ret trivial;exact .ret trivial
structure mD (s:qa) (n:Nat) (b:qf):Prop where
 hs:s.length<=1048576
 cs:b.cs.l.length=n
 clen: ∀c∈b.cs.l,c.length<=s.length
 wB:b.wB.l.length=n+1
 mono:b.wB.l.Pairwise (· < ·)
 Zg: ∀x∈b.wB.l,0<=x/\x<=s.length
 fuel:0<=b.fuel/\b.fuel<=20000
 hn:n<=1048576
structure cj (b c:qf):Prop where
 cs:c.cs=b.cs
 wB:c.wB=b.wB
 fold:c.fold=b.fold
 fuel:c.fuel<=b.fuel
theorem cj.refl(b:qf):cj b b:=⟨rfl,rfl,rfl,u! _⟩
theorem cj.trans{a b c:qf}(h1:cj a b)(h2:cj b c):cj a c:=⟨h2.cs.trans h1.cs,h2.wB.trans h1.wB,h2.fold.trans h1.fold,I' h2.fuel h1.fuel⟩
def Uq(s:qa)(x:qn):Prop:=x.qI= -1\/(0<=x.qI/\x.qI<=x.to/\x.to<=s.length)
structure pa (s:qa) (g:Nat) (p:Sl qn):Prop where
 len:p.l.length=g
 ok: ∀x∈p.l,Uq s x
inductive GL (g:Nat) (j:Int):Option qe->Prop
 |none:GL g j none
 |J7 (k:qe) (hk:k.kind=1) (g0:0<=k.g) (g1:k.g<g) (f0:0<=k.qI) (f1:k.qI<=j) (h:GL g j k.rest):GL g j (some k)
 |again (k:qe) (hk:k.kind=2) (hx:WF k.x) (hl:kO k.x) (h7:k.x.kind=7) (g0:0<=k.g) (g1:k.g+cZ k.x<=g) (h:GL g j k.rest):GL g j (some k)
 |hold (k:qe) (hk:k.kind=0) (hx:WF k.x) (hl:kO k.x) (g0:0<=k.g) (g1:k.g+cZ k.x<=g) (h:GL g j k.rest):GL g j (some k)
theorem GL.oN{g:Nat}{i j:Int}(Ef:i<=j){k:Option qe}(h:GL g i k):GL g j k:=by induction h with|none=>exact .none|J7 k hk g0 g1 f0 f1 _ ih=>exact .J7 k hk g0 g1 f0 o? ih|again k hk hx hl h7 g0 g1 _ ih=>exact .again k hk hx hl h7 g0 g1 ih|hold k hk hx hl g0 g1 _ ih=>exact .hold k hk hx hl g0 g1 ih
mutual
def kW:qe->Nat
 |⟨kd,x,_,_,_,r⟩=>(if kd=0 then re x else 1)+kWO r
def kWO:Option qe->Nat
 |none=>0
 |some k=>kW k
end
theorem Lx(k:qe):kWO (some k)=(if k.kind=0 then re k.x else 1)+kWO k.rest:=by cases k;simp[kW,kWO]
section
variable {s:qa} {n:Nat}
theorem Kc{b:qf}(hb:mD s n b){i:Int}(h0:0<=i)(h1:i<=n):qJ (qh b.wB.l i) (fun x=>b.wB.l[i.toNat]? =some x/\0<=x/\x<=s.length):=
 (n_ h0 (by have:=hb.wB;omega)).mono fun x hx=>⟨hx.1,hb.Zg x hx.2⟩
theorem TA{l:List Int}(hm:l.Pairwise (· < ·)){i j:Nat}{a c:Int}(hi:l[i]? =some a)(hj:l[j]? =some c)(h:i<j):a<c:=by obtain⟨i1,rfl⟩:=qF hi;obtain⟨j1,rfl⟩:=qF hj;exact b!.1 hm i j i1 j1 h
theorem XT{l:List Int}(hm:l.Pairwise (· < ·)){i j:Nat}{a c:Int}(hi:l[i]? =some a)(hj:l[j]? =some c)(h:i<=j):a<=c:=by have:= @TA;exact tW
theorem AR(x:qE)(hx:kO x)(i:Int)(h0:0<=i)(h1:i<=n)(b:qf)(hb:mD s n b):qJ (nS x i b) (fun r=>0<=r.1/\(r.2=true->i+r.1<=n)):=by have hc:=hb.cs;have hn:=hb.hn;have hs:=hb.hs;have hxw:=yn x;have hrows:=zZ rY x.rows.l;unfold kO at hx;unfold nS;refine .tI ?_ ?_<;>intro hT;exact .ret ⟨z?,fun _=>u?⟩;refine .tI ?_ ?_<;>intro hT;exact .ret ⟨z?,fun _=>u?⟩;refine .tI ?_ ?_<;>intro hT;{refine .tI ?_ ?_<;>intro hT;{(repeat (first|(rw [qG];rotate_left;omega;omega)|(rw [xC];rotate_left;omega;omega)));refine .bind .get fun c _=>?_;refine .bind (Zp c) fun v _=>?_;refine .tI ?_ ?_<;>intro hT;refine .bind .get fun c _=>?_;refine .bind (Zp c) fun v _=>?_;exact .ret ⟨z?,fun _=>u?⟩;exact .ret ⟨z?,fun _=>u?⟩};refine .tI ?_ ?_<;>intro hT;refine .bind .get fun c _=>?_;refine .bind (Zp c) fun v _=>?_;exact .ret ⟨z?,fun _=>u?⟩;exact .ret ⟨z?,fun _=>u?⟩};refine .tI ?_ ?_<;>intro hT;exact .ret ⟨z?,z?⟩;refine .bind .get fun c hcc=>?_;have Xl:=hb.clen c hcc.2;refine .tI ?_ ?_<;>intro hT;exact .ret ⟨z?,fun _=>u?⟩;refine .tI ?_ ?_<;>intro hT;refine .bind (F5 x.rows o? _ _ c o?) fun v _=>?_;exact .ret ⟨z?,fun _=>u?⟩;refine .tI ?_ ?_<;>intro hT;exact .ret ⟨z?,fun _=>u?⟩;refine .tI ?_ ?_<;>intro hT;refine .bind (Z3 c o?) fun v _=>?_;refine .bind (Z3 x.char o?) fun v _=>?_;exact .ret ⟨z?,fun _=>u?⟩;exact .ret ⟨z?,z?⟩
end
abbrev OnR:=Int×Sl qn×Bool×qf
structure Pa (s:qa) (n g:Nat) (i:Int) (b:qf) (r:OnR):Prop where
 run:mD s n r.2.2.2
 oN:cj b r.2.2.2
 ok:r.2.2.1=true->i<=r.1/\r.1<=n/\pa s g r.2.1
theorem Pa.mono{s:qa}{n g:Nat}{i j:Int}{b c:qf}{r:OnR}(h:Pa s n g j c r)(Ef:i<=j)(hl:cj b c):Pa s n g i b r:=
 ⟨h.run,hl.trans h.oN,fun k=>⟨I' Ef (h.ok k).1,(h.ok k).2⟩⟩
theorem Pa.fail{s:qa}{n g:Nat}{i:Int}{b:qf}(hb:mD s n b){e:Int}{p:Sl qn}:Pa s n g i b (e,p,false,b):=⟨hb,.refl b,z?⟩
section
variable {s:qa} {n g:Nat}
structure Un (s:qa) (n g:Nat) (k:Option qe) (i:Int) (parts:Sl qn) (b:qf):Prop where
 i0:0<=i
 i1:i<=n
 k:GL g i k
 p:pa s g parts
 run:mD s n b
 g:g<=1000000000
def GN(s:qa)(n g:Nat)(k:Option qe)(i:Int)(parts:Sl qn)(b:qf):Prop:=qJ (za (k,i,parts,b)) (Pa s n g i b)
theorem U7{p:Sl qn}(h:p.l.length=g)(hg:g<=1000000000):qg p.l.length 16=true:=by simp only[qg,zQ,decide_eq_true_eq];omega
theorem pa.set{p:Sl qn}(h:pa s g p)(i:Nat){x:qn}(hx:Uq s x)(b:Bool):pa s g (⟨b,p.l.set i x⟩:Sl qn) where
 len:=by simpa using h.len
 ok:=by intro y hy;rcases l! hy with hy|rfl;exact h.ok y hy;exact hx
theorem rH{o:Option OnR}{Q:OnR->Prop}(h:qJ o Q):qJ (o>>=fun v=>some (v.1,v.2.1,v.2.2.1,v.2.2.2)) Q:=qJ.bind h fun v hv=> .ret hv
theorem Dy(k:qe)(i:Int)(parts:Sl qn)(b:qf)(h:Un s n g (some k) i parts b)(hk:k.kind=0)(h7:k.x.kind≠7)
  (go: ∀k i parts c,Un s n g k i parts c->c.fuel.toNat<b.fuel.toNat->GN s n g k i parts c):qJ (uP (some k,i,parts,b)) (Pa s n g i b):=by
 have hf:=h.run.fuel;have hg:=h.g;have hn:=h.run.hn;obtain⟨hx,hl,g0,g1,pB⟩:WF k.x/\kO k.x/\0<=k.g/\k.g+cZ k.x<=g/\GL g i k.rest:=by cases h.k with|J7 _ h1=>omega|again _ h1=>omega|hold _ _ a b c d e=>exact⟨a,b,c,d,e⟩
 rw[uP.eq_1];refine .tI ?_ ?_<;>intro hT;exact .ret ⟨⟨h.run.hs,h.run.cs,h.run.clen,h.run.wB,h.run.mono,h.run.Zg,hf,hn⟩,⟨rfl,rfl,rfl,u! _⟩,z?⟩
 have hf0:0<b.fuel:=o?;refine .go rfl ?_;have hr:mD s n (qf.mk b.cs b.wB b.fold (q?.wrap (b.fuel-(1:Int))) b.out):=
  ⟨h.run.hs,h.run.cs,h.run.clen,h.run.wB,h.run.mono,h.run.Zg,by simp only;rw[qG o? o?];omega,hn⟩
 have VB:cj b (qf.mk b.cs b.wB b.fold (q?.wrap (b.fuel-(1:Int))) b.out):=⟨rfl,rfl,rfl,by simp only;rw[qG o? o?];omega⟩;have xQ:(qf.mk b.cs b.wB b.fold (q?.wrap (b.fuel-(1:Int))) b.out).fuel.toNat<b.fuel.toNat:=by simp only;rw[qG o? o?];omega
 have Gi:=WH k.x;refine .tI ?_ ?_<;>intro hT;(have h5:=hT;obtain⟨y,hy⟩:=hx.one o?;refine .go (a:=y) (by rw[hy];rfl) ?_;have Eo:y∈k.x.qz.l:=by rw[hy];simp);rw[if_pos h5,hy]at Gi;simp only[s?,L?,qO]at Gi;rw[wr (n:=k.g+1) o? o?];refine rH ((go _ i parts _ ⟨h.i0,h.i1, ?_,h.p,hr,hg⟩ xQ).mono fun r hr=>hr.mono (u! _) VB);refine .hold _ rfl (hx.qz y Eo) (mc hl Eo) u? u? ?_;exact .J7 _ rfl u? u? (by simp only;exact h.i0) u? pB;refine .tI ?_ ?_<;>intro hT;(have h6:=hT;obtain⟨y,hy⟩:=hx.one o?;refine .go (a:=y) (by rw[hy];rfl) ?_;have Eo:y∈k.x.qz.l:=by rw[hy];simp);rw[if_neg o?,hy]at Gi;simp only[s?,L?,qO]at Gi;refine rH ((go _ i parts _ ⟨h.i0,h.i1, ?_,h.p,hr,hg⟩ xQ).mono fun r hr=>hr.mono (u! _) VB);exact .hold _ rfl (hx.qz y Eo) (mc hl Eo) u? u? pB;refine .bind (AR k.x hl i h.i0 h.i1 _ hr) fun v hv=>?_;refine .tI ?_ ?_<;>intro hT;exact .ret ⟨hr,VB,z?⟩;have Ta:=hv.2 (by simpa using hT);have h0:=h.i0;rw[wr (n:=i+v.1) o? o?];refine rH ((go _ (i+v.1) parts _ ⟨o?,Ta,pB.oN o?,h.p,hr,hg⟩ xQ).mono fun r hr=>hr.mono o? VB)
theorem W6(k:qe)(i:Int)(parts:Sl qn)(b:qf)(h:Un s n g (some k) i parts b)(hk:k.kind=0)(h0:k.x.kind≠0/\k.x.kind≠1/\k.x.kind≠7)
  (go: ∀k i parts c,Un s n g k i parts c->c.fuel.toNat<b.fuel.toNat->GN s n g k i parts c):GN s n g (some k) i parts b:=by unfold GN;rw[za.eq_1];rw[if_neg z?];refine .go rfl ?_;rw[if_neg (by simp[hk]),if_neg (by simp[hk]),if_neg (by simp[h0.1]),if_neg (by simp[h0.2.1]),if_neg (by simp[h0.2.2])];exact rH (Dy k i parts b h hk h0.2.2 go)
theorem DI(k:qe)(i:Int)(b:qf)(hl:kO k.x)(g0:0<=k.g)(g1:k.g+cZ k.x<=g)(hg:g<=1000000000):
  ∀(m:Nat)(j:Int)(p:List qn),m=(cZ k.x-j).toNat->0<=j->pa s g ⟨false,p⟩->qJ (vQ (some k,i,j,b,p)) (fun r=>pa s g ⟨false,r⟩):=by intro m;induction m using r? with|_ m ih=>intro j p hm h0 hp;have sZ:=hp.len;simp only at sZ;rw[vQ.eq_1];refine .go rfl ?_;refine .go (eP k.x hl) ?_;refine .tI ?_ ?_<;>intro hT;rw[wr (n:=k.g+j) o? o?,wr (n:=j+1) o? o?];refine .bind .get fun y _=>?_;exact ih _ o? (j+1) _ rfl o? (hp.set _ (.inl rfl) false);exact .ret hp
theorem time_tot(k:qe)(i:Int)(parts:Sl qn)(b:qf)(i0:0<=i)(i1:i<=n)(hx:WF k.x)(hl:kO k.x)(h7:k.x.kind=7)(g0:0<=k.g)(g1:k.g+cZ k.x<=g)(pB:GL g i k.rest)(hp:pa s g parts)(hb:mD s n b)(hg:g<=1000000000)
  (go: ∀k i parts c,Un s n g k i parts c->c.fuel.toNat<b.fuel.toNat->GN s n g k i parts c):qJ (xx (some k,i,parts,b)) (Pa s n g i b):=by
 rw[xx.eq_1];refine .zz (U7 hp.len hg) ?_;refine .bind (DI (s:=s) k i b hl g0 g1 hg _ 0 parts.l rfl o? ⟨hp.len,hp.ok⟩) fun v hv=>?_;refine .go rfl ?_;obtain⟨y,hy⟩:=hx.one o?;refine .go (a:=y) (by rw[hy];rfl) ?_;have Eo:y∈k.x.qz.l:=by rw[hy];simp
 have hyk:=hx.rep h7 y Eo;have Gi:=WH k.x;rw[if_neg o?,hy]at Gi;simp only[s?,L?,qO]at Gi;refine rH (W6 _ i _ b ⟨i0,i1, ?_,hv,hb,hg⟩ rfl u? go);refine .hold _ rfl (hx.qz y Eo) (mc hl Eo) g0 u? ?_;exact .again _ rfl hx hl h7 g0 g1 pB
theorem WE(k:qe)(i:Int)(parts:Sl qn)(b:qf)(i0:0<=i)(i1:i<=n)(hx:WF k.x)(hl:kO k.x)(h7:k.x.kind=7)(g0:0<=k.g)(g1:k.g+cZ k.x<=g)(pB:GL g i k.rest)(hp:pa s g parts)(hb:mD s n b)(hg:g<=1000000000)
  (go: ∀k i parts c,Un s n g k i parts c->c.fuel.toNat<b.fuel.toNat->GN s n g k i parts c)
  (rest: ∀c,mD s n c->c.fuel<=b.fuel->GN s n g k.rest i parts c):qJ (jQ (some k,i,parts,b)) (Pa s n g i b):=by
 have tm: ∀c,mD s n c->cj b c->qJ (xx (some k,i,parts,c)) (Pa s n g i c):=fun c hc hbc=>
  time_tot k i parts c i0 i1 hx hl h7 g0 g1 pB hp hc hg fun k i p d h1 h2=>go k i p d h1 (by have:=hbc.fuel;have:=hc.fuel;have:=hb.fuel;omega)
 have t0:=tm b hb (.refl b);have r0:qJ (za (k.rest,i,parts,b)) (Pa s n g i b):=rest b hb (u! _);have lazy: ∀{c:OnR->Prop}[DecidablePred c],qJ (za (k.rest,i,parts,b)>>=fun v=>if c v then some (v.1,v.2.1,v.2.2.1,v.2.2.2)else xx (some k,i,parts,v.2.2.2)>>=fun w=>some (w.1,w.2.1,w.2.2.1,w.2.2.2)) (Pa s n g i b):=by intro c _;refine .bind r0 fun v hv=>?_;refine .ite (fun _=> .ret hv) fun _=>?_;exact rH ((tm v.2.2.2 hv.run hv.oN).mono fun r hr=>hr.mono (u! _) hv.oN)
 have eager: ∀{c:OnR->Prop}[DecidablePred c],qJ (xx (some k,i,parts,b)>>=fun v=>if c v then some (v.1,v.2.1,v.2.2.1,v.2.2.2)else za (k.rest,i,parts,v.2.2.2)>>=fun w=>some (w.1,w.2.1,w.2.2.1,w.2.2.2)) (Pa s n g i b):=by intro c _;refine .bind t0 fun v hv=>?_;refine .ite (fun _=> .ret hv) fun _=>?_;exact rH ((rest v.2.2.2 hv.run hv.oN.fuel).mono fun r hr=>hr.mono (u! _) hv.oN)
 rw[jQ.eq_1];refine .go rfl ?_;repeat' (first|exact rH t0|exact rH r0|exact lazy|exact eager|refine .ite (fun _=>?_) (fun _=>?_))
theorem seq_L1(k:qe)(i:Int)(parts:Sl qn)(b:qf)(hx:WF k.x)(hl:kO k.x)(g0:0<=k.g)(g1:k.g+qO (k.x.qz.l.map cZ)<=g)(hg:g<=1000000000):
  ∀(m:Nat)(rest:Option qe),m<=k.x.qz.l.length->GL g i rest->
   qJ (yf (some k,i,parts,rest,k.g+(qO ((k.x.qz.l.take m).map cZ):Nat),(m:Int)-1,b)) (fun r=>GL g i r/\kWO r=qO ((k.x.qz.l.take m).map re)+kWO rest):=by intro m;have pS:=ar k.x;unfold kO at hl;induction m with|zero=>intro rest _ hr;rw[yf.eq_1,if_neg z?];exact .ret ⟨hr,by simp[qO]⟩|succ m ih=>(intro rest hm hr;rw[yf.eq_1,if_pos z?];refine .go rfl ?_;have xQ:m<k.x.qz.l.length:=o?;have hy:k.x.qz.l[m]∈k.x.qz.l:=List.getElem_mem xQ;have e1:((m+1:Nat):Int)-1=(m:Int):=o?;rw[e1];refine .go (jg xQ) ?_;have hlk:kO k.x.qz.l[m]:=mc (by unfold kO;omega) hy;refine .go (eP _ hlk) ?_;have e2:k.x.qz.l.take (m+1)=k.x.qz.l.take m++[k.x.qz.l[m]]:=by rw[List.take_succ_eq_append_getElem xQ]);(have e3:=kc cZ (k.x.qz.l.take m) k.x.qz.l[m];have e4:=kc re (k.x.qz.l.take m) k.x.qz.l[m];have e5:qO (k.x.qz.l.map cZ)=qO ((k.x.qz.l.take m).map cZ)+qO ((k.x.qz.l.drop m).map cZ):=by conv=>lhs;rw[<- s_ m k.x.qz.l,Y!,bH]);(have e6:cZ k.x.qz.l[m]<=qO ((k.x.qz.l.drop m).map cZ):=xK (by rw[z_ xQ];exact List.mem_cons_self);rw[e2,e3,e4];have e7:q?.wrap (k.g+((qO ((k.x.qz.l.take m).map cZ)+cZ k.x.qz.l[m]:Nat):Int)-(cZ k.x.qz.l[m]:Int))=k.g+(qO ((k.x.qz.l.take m).map cZ):Nat):=by rw[wr o? o?];omega);rw[e7,wr (n:=(m:Int)-1) o? o?];refine(ih _ o? (.hold _ rfl (hx.qz _ hy) hlk u? u? hr)).mono fun r h=>⟨h.1, ?_⟩;rw[h.2,Lx];simp only[if_true];omega
theorem alt_L3(k:qe)(i:Int)(parts:Sl qn)(b:qf)(hx:WF k.x)(hl:kO k.x)(g0:0<=k.g)(g1:k.g+qO (k.x.qz.l.map cZ)<=g)(hg:g<=1000000000)(pB:GL g i k.rest)
  (go: ∀y∈k.x.qz.l,∀(q:Int) c,0<=q->q+cZ y<=g->mD s n c->c.fuel<=b.fuel->GN s n g (some (qe.mk (0:Int) y q (0:Int) (0:Int) k.rest)) i parts c):
  ∀(r:List qE)(m:Nat)(q:Int)(c:qf),k.x.qz.l.drop m=r->k.g<=q->q+qO (r.map cZ)<=g->mD s n c->cj b c->
   qJ (kq (some k,i,parts,q,(m:Int),c)) (fun r=>match r with| .inl v=>Pa s n g i b v| .inr d=>mD s n d/\cj b d):=by have pS:=ar k.x;unfold kO at hl;intro r;induction r with|nil=>intro m q c hm h0 h1 hc hbc;rw[kq.eq_1];have:= @yq;exact tW|cons y r ih=>intro m q c hm h0 h1 hc hbc;obtain⟨a1,a2,a3,a4⟩:=wV hm;simp only[s?,qO]at h1;rw[kq.eq_1];refine .go rfl ?_;rw[if_pos (by simpa using a1),lg o? a1];refine .go a2 ?_;refine .bind (go y a4 q c o? o? hc hbc.fuel) fun v hv=>?_;refine .ite (fun _=> .ret (hv.mono (u! _) hbc)) fun _=>?_;refine .go (eP y (mc (by unfold kO;omega) a4)) ?_;rw[wr (n:=q+(cZ y:Int)) o? o?];exact ih (m+1) _ _ a3 o? o? hv.run (hbc.trans hv.oN)
theorem on_tot: ∀(f w:Nat)(k:Option qe)(i:Int)(parts:Sl qn)(b:qf),b.fuel.toNat=f->kWO k=w->Un s n g k i parts b->GN s n g k i parts b:=by
 intro f;induction f using r? with
  |_ f ihf=>intro w;induction w using r? with
  |_ w ihw=>(intro k i parts b hf hw h;have go: ∀k i parts c,Un s n g k i parts c->c.fuel.toNat<b.fuel.toNat->GN s n g k i parts c:=fun k i p c h1 h2=>ihf _ o? _ k i p c rfl rfl h1;have Hb: ∀k i parts c,Un s n g k i parts c->c.fuel<=b.fuel->kWO k<w->GN s n g k i parts c:=by intro k' i p c h1 h2 h3;have:=h1.run.fuel;by_cases h4:c.fuel.toNat=f;exact ihw _ h3 k' i p c h4 rfl h1;exact ihf _ o? _ k' i p c rfl rfl h1);have hg:=h.g;have hn:=h.run.hn;cases hk:k with
  |none=>unfold GN;rw[za.eq_1,if_pos z?];exact .ret ⟨h.run,.refl b,fun _=>⟨u! _,h.i1,h.p⟩⟩
  |some k=>
   rw[hk]at h hw;rw[Lx]at hw;cases h.k with
    |J7 _ h1 g0 g1 f0 f1 pB=>unfold GN;rw[za.eq_1,if_neg z?];refine .go rfl ?_;rw[if_pos (by simp[h1])];refine .zz (U7 h.p.len hg) ?_;have i1:=h.i1;refine .bind (Kc h.run f0 o?) fun x hx=>?_;refine .bind (Kc h.run h.i0 h.i1) fun y hy=>?_;refine .bind (n_ g0 (by have:=h.p.len;omega)) fun z _=>?_;rw[if_neg o?]at hw;refine rH (Hb k.rest i _ b ⟨h.i0,h.i1,pB,h.p.set _ (.inr ⟨hx.2.1, ?_,hy.2.2⟩) false,h.run,hg⟩ (u! _) o?);exact XT h.run.mono hx.1 hy.1 o?
    |again _ h1 hx hl h7 g0 g1 pB=>
     have rep:qJ (jQ (some k,i,parts,b)) (Pa s n g i b):=
      WE k i parts b h.i0 h.i1 hx hl h7 g0 g1 pB h.p h.run hg go fun c hc hcf=>Hb k.rest i parts c ⟨h.i0,h.i1,pB,h.p,hc,hg⟩ hcf (by rw[if_neg o?]at hw;omega)
     unfold GN;rw[za.eq_1,if_neg z?];refine .go rfl ?_;rw[if_neg (by simp[h1]),if_pos (by simp[h1])];refine .ite (fun _=>qJ.ite (fun _=> .ret (.fail h.run)) fun _=>rH rep) fun _=>rH rep
    |hold _ h1 hx hl g0 g1 pB=>rw[if_pos h1]at hw;have Gi:=WH k.x;have hwx:=yn k.x;by_cases k0:k.x.kind=0;rw[if_neg o?]at Gi;unfold GN;rw[za.eq_1,if_neg z?];refine .go rfl ?_;rw[if_neg (by simp[h1]),if_neg (by simp[h1]),if_pos (by simp[k0])];refine .go (eP k.x hl) ?_;have pS:=ar k.x;unfold kO at hl;have h2:=seq_L1 k i parts b hx (by unfold kO;omega) g0 o? hg k.x.qz.l.length k.rest (jv _) pB;rw[List.take_length]at h2;rw[wr (n:=k.g+(cZ k.x:Int)) o? o?,wr (n:=(k.x.qz.l.length:Int)-1) o? o?];rw[show k.g+(cZ k.x:Int)=k.g+((qO (k.x.qz.l.map cZ):Nat):Int) by omega];refine .bind h2 fun v hv=>?_;exact rH (Hb v i parts b ⟨h.i0,h.i1,hv.1,h.p,h.run,hg⟩ (u! _) o?);by_cases k1:k.x.kind=1;rw[if_neg o?]at Gi;unfold GN;rw[za.eq_1,if_neg z?];refine .go rfl ?_;rw[if_neg (by simp[h1]),if_neg (by simp[h1]),if_neg (by simp[k0]),if_pos (by simp[k1])];refine .bind (alt_L3 (s:=s) (n:=n) k i parts b hx hl g0 o? hg pB ?_ k.x.qz.l 0 k.g b rfl (u! _) o? h.run (.refl b)) fun v hv=>?_;intro y hy q c q0 q1 hc hcf;have:=HR hy;refine Hb _ i parts c ⟨h.i0,h.i1,.hold _ rfl (hx.qz y hy) (mc hl hy) q0 q1 pB,h.p,hc,hg⟩ hcf ?_;rw[Lx];simp only[if_true];omega;rcases v with v|v;exact .ret hv;exact .ret ⟨hv.1,hv.2,z?⟩;by_cases k7:k.x.kind=7;unfold GN;rw[za.eq_1,if_neg z?];refine .go rfl ?_;rw[if_neg (by simp[h1]),if_neg (by simp[h1]),if_neg (by simp[k0]),if_neg (by simp[k1]),if_pos (by simp[k7])];refine rH (WE _ i parts b h.i0 h.i1 hx hl k7 g0 g1 pB h.p h.run hg go fun c hc hcf=>?_);exact Hb k.rest i parts c ⟨h.i0,h.i1,pB,h.p,hc,hg⟩ hcf (by have:=ea k.x;omega);exact W6 k i parts b h h1 ⟨k0,k1,k7⟩ go
end
theorem splitL(s:qa): ∀(r:qa)(k f:Nat)(l out:List qa),s.drop k=r->k<=s.length->s.length<=1048576->(∀ c∈l,c.length<=s.length)->zL (s,(f:Int),(k:Int),l)=some out-> ∀c∈out,c.length<=s.length:=by intro r;induction r with|nil=>intro k f l out hk pS hs hl h;have h1:=vJ hk;obtain rfl:k=s.length:=o?;rw[zL.eq_1]at h;simp only[u!,decide_true,if_true,beq_self_eq_true,zJ,R!]at h;obtain⟨r,hr,h⟩:=h;split at h;rw[zL.eq_1,if_neg (by rw[wr o? o?];simp;omega)]at h;cases h;intro c hc;rcases m?.1 hc with hc|hc;exact hl c hc;simp only[d?]at hc;subst hc;rw[<- Xg hr];simp;cases h|cons b r ih=>intro k f l out hk pS hs hl h;obtain⟨a1,a2,a3,_⟩:=wV hk;have h1:((k:Int)<=(s.length:Int)):=o?;have h2:((k:Int)==(s.length:Int))=false:=v?;rw[zL.eq_1]at h;simp only[h1,decide_true,if_true,h2,wA,if_false,a2,zJ,qS,K8,lg o? a1]at h;split at h;rw[R!]at h;obtain⟨r1,hr,h⟩:=h;split at h;refine ih (k+1) k _ out a3 o? hs ?_ h;intro c hc;rcases m?.1 hc with hc|hc;exact hl c hc;simp only[d?]at hc;subst hc;rw[<- Xg hr];simp;omega;cases h;exact ih (k+1) f l out a3 o? hs hl h
theorem FM(s:qa)(hs:s.length<=1048576): ∀(r:qa)(k:Nat)(l:List Int),s.drop k=r->k<=s.length->l.length<=k->l.Pairwise (· < ·)->(∀ x∈l,0<=x/\x<k)->
  ∃out,je (s,(k:Int),l)=some out/\out.length=l.length+r.countP Jl+1/\out.Pairwise (· < ·)/\ ∀x∈out,0<=x/\x<=s.length:=by
 have WG: ∀n,n<=1099511627777->qg n 8=true:=by intro n hn;simp only[qg,zQ,decide_eq_true_eq];omega
 have HX: ∀(l:List Int)(k:Nat),l.Pairwise (· < ·)->(∀ x∈l,0<=x/\x<(k:Int))->(l++[(k:Int)]).Pairwise (· < ·):=by intro l k h1 h2;refine List.pairwise_append.2 ⟨h1,z?,fun a ha b hb=>?_⟩;simp only[d?]at hb;subst hb;exact(h2 a ha).2
 intro r;induction r with
  |nil=>intro k l hk pS Fa hp hr;have h1:=vJ hk;obtain rfl:k=s.length:=o?;rw[je.eq_1];simp only[u!,decide_true,if_true,beq_self_eq_true,WG _ (show l.length+1<=_ by omega)];rw[je.eq_1,if_neg (by rw[wr o? o?];simp;omega)];refine⟨_,rfl,z?,HX l _ hp hr, ?_⟩;intro x hx;rcases m?.1 hx with hx|hx;have:=hr x hx;omega;simp only[d?]at hx;omega
  |cons b r ih=>
   intro k l hk pS Fa hp hr;obtain⟨a1,a2,a3,_⟩:=wV hk;have h1:((k:Int)<=(s.length:Int)):=o?;have h2:((k:Int)==(s.length:Int))=false:=v?;rw[je.eq_1];simp only[h1,decide_true,if_true,h2,wA,if_false,a2,zJ,qS,K8,lg o? a1];cases hb:Jl b;obtain⟨out,o1,o2,o3⟩:=ih (k+1) l a3 o? o? hp (fun x hx=>by have:=hr x hx;omega);exact⟨out,by simpa using o1,by rw[o2];simp[O!,hb],o3⟩
   obtain⟨out,o1,o2,o3⟩:=ih (k+1) (l++[(k:Int)]) a3 o? v? (HX l k hp hr) (fun x hx=>by
    rcases m?.1 hx with hx|hx
    ·have:=hr x hx;omega
    simp only[d?]at hx;omega)
   refine⟨out, ?_,by rw[o2];simp[O!,hb];omega,o3⟩;simp only[if_true,WG _ (show l.length+1<=_ by omega),o1]
theorem Ue(fold:Bool)(s:qa)(hs:s.length<=1048576)(fuel:Int):qJ (tR fold s fuel) (fun b=> ∃n,mD s n b):=by
 have hfu:0<=(if (20000:Int)<(if (0:Int)>fuel then(0:Int)else fuel)then(20000:Int)else(if (0:Int)>fuel then(0:Int)else fuel))/\(if (20000:Int)<(if (0:Int)>fuel then(0:Int)else fuel)then(20000:Int)else(if (0:Int)>fuel then(0:Int)else fuel))<=20000:=by constructor<;>(repeat' split)<;>omega
 unfold tR;by_cases h0:s.length=0;(have:s=[]:=by simpa using h0);subst this;refine .go (a:=(⟨true,[]⟩:Sl qa)) (by unfold yJ;rw[zL.eq_1];simp) ?_;refine .go (a:=(⟨false,[0]⟩:Sl Int)) (by unfold rJ;rw[je.eq_1];simp) ?_;exact .ret ⟨0,⟨z?,rfl,z?,rfl,z?,z?,hfu,o?⟩⟩;obtain⟨o1,p1,p2⟩:=Mo s o? (s.drop 1) 1 0 [] rfl o? o? z?;have p3:=splitL s (s.drop 1) 1 0 [] o1 rfl o? hs z? p1;obtain⟨o2,q1,q2,q3,q4⟩:=FM s hs (s.drop 1) 1 [0] rfl o? z? z? z?;have hc:(s.drop 1).countP Jl<=s.length-1:=by have:=List.countP_le_length (p:=Jl) (l:=s.drop 1);simp only[List.length_drop]at this;exact this
 refine .go (a:=(⟨o1.isEmpty,o1⟩:Sl qa)) (by unfold yJ;exact Option.bind_eq_some_iff.2 ⟨o1,p1,rfl⟩) ?_;refine .go (a:=(⟨false,o2⟩:Sl Int)) (by unfold rJ;exact Option.bind_eq_some_iff.2 ⟨o2,q1,rfl⟩) ?_;refine .ret ⟨o1.length,⟨hs,rfl,p3, ?_,q3,q4,hfu, ?_⟩⟩;exact tW;simp only[List.length_nil]at p2;omega
structure Q9 (s:qa) (n g:Nat) (b:qf) (i:Int) (m:qj):Prop where
 ex: ∃j e:Nat,i<=j/\j<=e/\e<=n/\b.wB.l[j]? =some m.span.qI/\b.wB.l[e]? =some m.span.to
 parts:pa s g m.parts
section
variable {s:qa} {n:Nat}
theorem q0a(i:Int)(b:qf)(x:qE)(t:qj)(hl:kO x)(hg:cZ x<=1000000000): ∀(m:Nat)(j:Int)(l:List qn),m=(cZ x-j).toNat->0<=j->j<=cZ x->(l.length:Int)=j->(∀ y∈l,Uq s y)->
  qJ (uO (i,j,b,x,t,l)) (fun r=>r.length=cZ x/\ ∀y∈r,Uq s y):=by intro m;induction m using r? with|_ m ih=>intro j l hm h0 h1 hlen T1;rw[uO.eq_1];refine .go (eP x hl) ?_;refine .tI ?_ ?_<;>intro hT;refine .zz (by simp only[qg,zQ,decide_eq_true_eq];omega) ?_;rw[wr (n:=j+1) o? o?];refine ih _ o? (j+1) _ rfl o? o? v? ?_;intro y hy;rcases m?.1 hy with hy|hy;exact T1 y hy;simp only[d?]at hy;subst hy;exact .inl rfl;exact .ret ⟨o?,T1⟩
theorem O5(x:qE)(hx:WF x)(hl:re x<=1000000000)(i:Int)(h0:0<=i)(h1:i<=n)(b:qf)(hb:mD s n b):
  qJ (rM x i b) (fun r=>mD s n r.2.2/\cj b r.2.2/\(r.2.1=true->Q9 s n (cZ x) b i r.1)):=by
 have hgl:=Rp x;have hli:kO x:=by unfold kO;omega
 unfold rM;refine .bind (q0a (s:=s) i b x _ hli o? _ 0 [] rfl o? o? rfl z?) fun v hv=>?_;refine .bind (on_tot (s:=s) (n:=n) (g:=cZ x) _ _ _ i _ b rfl rfl ⟨h0,h1,.hold _ rfl hx hli u? u? .none,⟨hv.1,hv.2⟩,hb,o?⟩) fun w hw=>?_;refine .ite (fun _=> .ret ⟨hw.run,hw.oN,z?⟩) fun hc=>?_;have Wa:=hw.ok (by simpa using hc);refine .bind (Kc hw.run h0 h1) fun y hy=>?_;refine .bind (Kc hw.run o? Wa.2.1) fun z hz=>?_;refine .ret ⟨hw.run,hw.oN,fun _=>⟨⟨i.toNat,w.1.toNat,o?,o?,o?, ?_, ?_⟩,Wa.2.2⟩⟩;rw[<- hw.oN.wB];exact hy.1;rw[<- hw.oN.wB];exact hz.1
theorem Q9.mono{g:Nat}{b c:qf}{i j:Int}{m:qj}(h:Q9 s n g c j m)(Ef:i<=j)(hl:cj b c):Q9 s n g b i m:=by obtain⟨⟨p,e,h1,h2,h3,h4,h5⟩,h6⟩:=h;exact⟨⟨p,e,o?,h2,h3,by rw[<- hl.wB];exact h4,by rw[<- hl.wB];exact h5⟩,h6⟩
theorem DY(x:qE)(hx:WF x)(hl:re x<=1000000000)(t:qj): ∀(m:Nat)(i:Int)(b:qf),m=(n+1-i).toNat->0<=i->mD s n b->
  qJ (vP (i,b,x,t)) (fun r=>match r with| .inl v=>mD s n v.2.1/\cj b v.2.1/\(v.1=true->Q9 s n (cZ x) b i v.2.2)| .inr c=>mD s n c/\cj b c):=by intro m;induction m using r? with|_ m ih=>intro i b hm h0 hb;have ho:=hb.wB;have hn:=hb.hn;rw[vP.eq_1];refine .tI ?_ ?_<;>intro hT;refine .bind (O5 x hx hl i h0 o? b hb) fun v hv=>?_;refine .ite (fun _=> .ret hv) fun _=>?_;rw[wr (n:=i+1) o? o?];refine(ih _ o? (i+1) v.2.2 rfl o? hv.1).mono fun r hr=>?_;rcases r with r|r;exact⟨hr.1,hv.2.1.trans hr.2.1,fun h=>(hr.2.2 h).mono o? hv.2.1⟩;exact⟨hr.1,hv.2.1.trans hr.2⟩;exact .ret ⟨hb,.refl b⟩
theorem KU(x:qE)(hx:WF x)(hl:re x<=1000000000)(i:Int)(h0:0<=i)(b:qf)(hb:mD s n b):
  qJ (bf x i b) (fun r=>mD s n r.2.2/\cj b r.2.2/\(r.2.1=true->Q9 s n (cZ x) b i r.1)):=by unfold bf;have:= @DY;exact tW
theorem Jp(a:Int)(b:qf)(hb:mD s n b):qJ (uQ a b) (fun r=> -1<=r/\ ∀e:Nat,b.wB.l[e]? =some a->r=e):=by
 have ho:=hb.wB;have hn:=hb.hn;have key: ∀(r:List Int)(k:Nat),b.wB.l.drop k=r->qJ (kA (a,(k:Int),b)) (fun v=>match v with| .inl i=> ∃j:Nat,i=j/\b.wB.l[j]? =some a| .inr _=> ∀e:Nat,k<=e->b.wB.l[e]? ≠some a):=by intro r;induction r with|nil=>intro k hk;rw[kA.eq_1,if_neg (by simpa using yq hk)];refine .ret fun e he=>?_;rw[List.getElem?_eq_none (by have:=vJ hk;omega)];simp|cons y r ih=>intro k hk;obtain⟨a1,a2,a3,a4⟩:=wV hk;obtain⟨b1,b2,b3⟩:=drop_cons hk;rw[kA.eq_1,if_pos (by simpa using a1),lg o? a1];exact tW
 unfold uQ;refine .bind (key b.wB.l 0 rfl) fun v hv=>?_;rcases v with v|v;(obtain⟨j,rfl,hj⟩:=hv;refine .ret ⟨o?,fun e he=>?_⟩;have h1: ¬j<e:=fun h=>by have:=TA hb.mono hj he h;omega);(have h2: ¬e<j:=fun h=>by have:=TA hb.mono he hj h;omega);omega;exact .ret ⟨o?,fun e he=>absurd he (hv e (Nat.zero_le e))⟩
def Ms(s:qa)(g:Nat):Int->List qj->Prop
 |lo,[]=>0<=lo/\lo<=s.length
 |lo,m::r=>0<=lo/\lo<=m.span.qI/\m.span.qI<=m.span.to/\pa s g m.parts/\Ms s g m.span.to r
def F8:Int->List qj->Int
 |lo,[]=>lo
 |_,m::r=>F8 m.span.to r
theorem Ms.lo{g:Nat}: ∀{l:List qj}{lo:Int},Ms s g lo l->0<=lo/\lo<=s.length
 |[],lo,h=>h
 |m::r,lo,h=>by have:=Ms.lo h.2.2.2.2;have h1:=h.1;have h2:=h.2.1;have h3:=h.2.2.1;omega
theorem XG: ∀(l:List qj)(lo:Int)(m:qj),F8 lo (l++[m])=m.span.to
 |[],_,_=>rfl
 |_::r,_,m=>XG r _ m
theorem Ms.HX{g:Nat}: ∀{l:List qj}{lo:Int}{m:qj},Ms s g lo l->F8 lo l<=m.span.qI->m.span.qI<=m.span.to->m.span.to<=s.length->pa s g m.parts->Ms s g lo (l++[m])
 |[],lo,m,h,h1,h2,h3,h4=>by have:=h.1;exact⟨h.1,h1,h2,h4,by simp only[F8]at h1;omega,h3⟩
 |x::r,lo,m,h,h1,h2,h3,h4=>⟨h.1,h.2.1,h.2.2.1,h.2.2.2.1,Ms.HX h.2.2.2.2 h1 h2 h3 h4⟩
theorem IX(x:qE)(hx:WF x)(hl:re x<=1000000000): ∀(m:Nat)(i:Int)(b:qf)(out:List qj),m=(n+1-i).toNat->0<=i->i<=n+1->(out.length:Int)<=i->mD s n b->Ms s (cZ x) 0 out->(∀ a,b.wB.l[i.toNat]? =some a->F8 0 out<=a)->
  qJ (bU (i,x,b,out)) (fun r=>match r with| .inl v=>v.2.2.1≠0/\v.1.l=[]| .inr v=>Ms s (cZ x) 0 v.2/\v.2.length<=n+1):=by intro m;induction m using r? with|_ m ih=>intro i b out hm h0 hi1 hlen hb hM hhi;have ho:=hb.wB;have hn:=hb.hn;rw[bU.eq_1];refine .tI ?_ ?_<;>intro hT;have hi:=hT;refine .bind (KU x hx hl i h0 b hb) fun v hv=>?_;refine .tI ?_ ?_<;>intro hT;exact .ret ⟨z?,rfl⟩;refine .tI ?_ ?_<;>intro hT;exact .ret ⟨hM,u?⟩;(obtain⟨⟨j,e,g1,g2,g3,g4,g5⟩,g6⟩:=hv.2.2 hT;refine .zz (by simp only[qg,zQ,decide_eq_true_eq];omega) ?_;refine .bind (Jp v.1.span.to v.2.2 hv.1) fun w hw=>?_;have hwe:w=e:=hw.2 e (by rw[hv.2.1.wB];exact g5);have hlow:F8 0 out<=v.1.span.qI:=by obtain⟨a,ha⟩: ∃a,b.wB.l[i.toNat]? =some a:=⟨_,wx o?⟩;have h1:=hhi a ha;have h2:=XT hb.mono ha g4 o?;omega);have hft:=XT hb.mono g4 g5 g2;have hto:=(hb.Zg _ (z7 g5)).2;have hM2:=hM.HX hlow hft hto g6;have oZ:=hv.2.1.wB;refine .tI ?_ ?_<;>intro hT;rw[wr (n:=w+1) o? o?];refine ih _ o? (w+1) v.2.2 _ rfl o? o? v? hv.1 hM2 ?_;intro a ha;rw[XG];rw[oZ]at ha;exact XT hb.mono g5 ha o?;(have jx:=hT;have hje:j<e:=by rcases Nat.eq_or_lt_of_le g2 with rfl|h;exact absurd (Option.some.inj (g4.symm.trans g5)) jx;exact h);refine ih _ o? w v.2.2 _ rfl o? o? v? hv.1 hM2 ?_;intro a ha;rw[XG];rw[oZ]at ha;exact XT hb.mono g5 ha o?;exact .ret ⟨hM,u?⟩
end
theorem D9(x:qE)(hl:re x<=1000000000)(fold:Bool)(s:qa)(hs:s.length<=1048576)(fuel:Int):qJ (iu x fold s fuel) (fun r=>r.2.2=0->Ms s (cZ x) 0 r.1.l/\r.1.l.length<=1048577):=by unfold iu;refine .bind (Xp x (by unfold kO;omega)) fun v hv=>?_;refine .tI ?_ ?_<;>intro hT;exact .ret z?;have hx:=hv hT;refine .bind (Ue fold s hs fuel) fun b hb=>?_;obtain⟨n,hb⟩:=hb;refine .bind (IX (s:=s) (n:=n) x hx hl _ 0 b [] rfl o? o? z? hb ⟨o?,o?⟩ (fun a ha=>(hb.Zg a (z7 ha)).1)) fun w hw=>?_;rcases w with w|w;exact .ret fun h=>absurd h hw.1;exact .ret fun _=>⟨hw.1,by have:=hb.hn;have:=hw.2;simp only;omega⟩
theorem P5(x:qE)(hl:re x<=1000000000)(fold:Bool)(s:qa)(hs:s.length<=1048576)(a fuel:Int):qJ (ft x fold s a fuel) (fun r=>r.2.2.1=true->Ms s (cZ x) 0 [r.1]):=by unfold ft;refine .bind (Xp x (by unfold kO;omega)) fun v hv=>?_;refine .tI ?_ ?_<;>intro hT;exact .ret z?;have hx:=hv hT;refine .bind (Ue fold s hs fuel) fun b hb=>?_;obtain⟨n,hb⟩:=hb;refine .bind (Jp a b hb) fun w hw=>?_;refine .tI ?_ ?_<;>intro hT;exact .ret z?;refine .bind (KU x hx hl w o? b hb) fun y hy=>?_;refine .bind (P:=fun r=>r.2.2.1=true->y.2.1=true/\r.1=y.1) ?_ fun z hz=>?_;exact tW;refine .ret fun h=>?_;obtain⟨z1,z2⟩:=hz h;obtain⟨⟨j,e,g1,g2,g3,g4,g5⟩,g6⟩:=hy.2.2 z1;simp only[z2];have h1:=hb.Zg _ (z7 g4);have h2:=hb.Zg _ (z7 g5);exact⟨o?,h1.1,XT hb.mono g4 g5 g2,g6,h2⟩
theorem V6(c:UInt8):qJ (fA c) (fun _=>True):=by unfold fA;refine .tI ?_ ?_<;>intro hT;exact .ret trivial;exact .ret trivial
theorem KN(c:UInt8):qJ (sM c) (fun _=>True):=by unfold sM;refine .tI ?_ ?_<;>intro hT;exact .ret trivial;exact .ret trivial
theorem SE(c:UInt8): ∃v,fx c=some v:=by
 unfold fx dy;repeat' split
 all_goals first|exact⟨_,rfl⟩|(simp only[zJ,qS];split<;>exact⟨_,rfl⟩)
theorem AY: ∀(m:Nat)(i:Int)(b:List UInt8),m=(b.length-i).toNat->0<=i->b.length<=1099511627776->qJ (mg (i,b)) (fun r=>r.length=b.length):=by intro m;induction m using r? with|_ m ih=>intro i b hm h0 hB;rw[mg.eq_1];refine .tI ?_ ?_<;>intro hT;{refine .bind .get fun c hc=>?_;refine .bind (V6 c) fun v _=>?_;(repeat (first|(rw [qG];rotate_left;omega;omega)|(rw [xC];rotate_left;omega;omega)));exact(ih _ v? (i+1) _ rfl o? (by simpa using hB)).mono fun r hr=>by simpa using hr};exact .ret rfl
theorem AZ: ∀(m:Nat)(i:Int)(b:List UInt8),m=(b.length-i).toNat->0<=i->b.length<=1099511627776->qJ (mh (i,b)) (fun r=>r.length=b.length):=by intro m;induction m using r? with|_ m ih=>intro i b hm h0 hB;rw[mh.eq_1];refine .tI ?_ ?_<;>intro hT;{refine .bind .get fun c hc=>?_;refine .bind (KN c) fun v _=>?_;(repeat (first|(rw [qG];rotate_left;omega;omega)|(rw [xC];rotate_left;omega;omega)));exact(ih _ v? (i+1) _ rfl o? (by simpa using hB)).mono fun r hr=>by simpa using hr};exact .ret rfl
def aB(s:qa):Nat:=s.length
theorem Ha: ∀(l:List qa),(∀ w∈l,1<=w.length)->l.length<=qO (l.map aB)
 |[],_=>z?
 |a::l,h=>by have h1:=h a z?;have h2:=Ha l fun w hw=>h w (by simp[hw]);simp only[s?,qO,g?,aB]at*;omega
theorem words_L0(s:qa)(hs:s.length<=1048576): ∀(r:qa)(k:Nat)(l:List qa),s.drop k=r->k<=s.length->(∀ w∈l,1<=w.length)->qO (l.map aB)<=k->(0<k-> ∀b,s[k-1]? =some b->fx b=some true->0<l.length)->
  qJ (jz (s,(k:Int),l)) (fun r=>(∀ w∈r,1<=w.length)/\qO (r.map aB)<=s.length):=by
 intro r;induction r with
  |nil=>intro k l hk BS h1 h2 h3;rw[jz.eq_1,if_neg (by simpa using yq hk)];exact .ret ⟨h1,o?⟩
  |cons b r ih=>
   intro k l hk BS h1 h2 h3;obtain⟨a1,a2,a3,a4⟩:=wV hk;obtain⟨b1,b2,b3⟩:=drop_cons hk;have hl:=Ha l h1;have e1:q?.wrap ((k:Int)+1)=((k+1:Nat):Int):=lg o? a1;have put: ∀(l:List qa),0<l.length->l.length<=k+1->(∀ i w,l[i]? =some w->i+1<l.length->1<=w.length)->qO (l.map aB)<=k-> ∀{f:qa->qa->Option (List qa)},(∀ x y,f x y=if x.length+y.length<=2^62 then jz (s,q?.wrap ((k:Int)+1),l.set ((q?.wrap ((l.length:Int)-1)).toNat) (x++y))else none)->
     qJ (qh l (q?.wrap ((l.length:Int)-1))>>=fun x=>kv s (k:Int) (q?.wrap ((k:Int)+1))>>=fun y=>f x y) (fun r=>(∀ w∈r,1<=w.length)/\qO (r.map aB)<=s.length):=by
    intro l hl0 hlk h4 h5 f hf;have e2:q?.wrap ((l.length:Int)-1)=((l.length-1:Nat):Int):=by rw[wr o? o?];omega
    rw[e2,e1];refine .bind .get fun x hx=>?_;have hxl:x.length<=qO (l.map aB):=xK (f:=aB) hx.2;refine .bind .kv fun y hy=>?_;rw[hf];refine .zz o? ?_;have Fk:y.length=1:=o?;have Fj:l[l.length-1]? =some x:=by simpa using hx.1
    have hsum:=Q3 aB l (l.length-1) (x++y) x Fj;rw[e2,c?,e1];have hlen:aB (x++y)=aB x+1:=by simp[aB,Fk]
    refine ih (k+1) _ a3 o? ?_ o? (fun _ _ _ _=>by simpa using hl0);intro w hw;obtain⟨i,hi⟩:=kh hw;rw[List.getElem?_set]at hi;split at hi
    ·split at hi
     ·cases hi;simp[Fk]
     cases hi
    rename_i jx;have:=(qF hi).1;exact h4 i w hi o?
   (obtain⟨v,hv⟩:=SE b;rw[jz.eq_1,if_pos (by simpa using a1)];refine .go a2 ?_;refine .go hv ?_;have hnew: ∀i w,(l++[([]:qa)])[i]? =some w->i+1<(l++[([]:qa)]).length->1<=w.length:=by intro i w hi xQ;simp only[t?,g?,e?]at xQ;rw[List.getElem?_append_left o?]at hi;exact h1 w (z7 hi));(have Fc:qO ((l++[([]:qa)]).map aB)<=k:=by rw[kc];simp only[aB,e?];omega);(have gU:qg (l.length+1) 16=true:=by simp only[qg,zQ,decide_eq_true_eq];omega);refine .tI ?_ ?_<;>intro hT;rw[e1];refine ih (k+1) l a3 o? h1 o? (fun _ c hc UX=>?_);simp only[Z_]at hc;rw[b1]at hc;cases hc;rw[hv]at UX;cases UX;exact absurd hT z?;refine .tI ?_ ?_<;>intro hT;exact .zz gU (put _ z? v? hnew Fc fun _ _=>rfl);(have hk0:0<k:=o?;have e3:q?.wrap ((k:Int)-1)=((k-1:Nat):Int):=by rw[wr o? o?];omega);rw[e3];refine .bind .get fun c hc=>?_;obtain⟨w,hw⟩:=SE c;refine .go hw ?_;refine .tI ?_ ?_<;>intro hT;exact .zz gU (put _ z? v? hnew Fc fun _ _=>rfl);refine put l (h3 hk0 c (by simpa using hc.1) ?_) o? (fun i w hi _=>h1 w (z7 hi)) h2 fun _ _=>rfl;rw[hw,hT]
theorem E4(s:qa)(hs:s.length<=1048576):qJ (cI s) (fun r=>(∀ w∈r.l,1<=w.length)/\qO (r.l.map aB)<=s.length):=by unfold cI;exact .bind (words_L0 s hs s 0 [] rfl o? z? (by simp[qO]) (fun h=>o?)) fun v hv=> .ret hv
theorem E0(wC:Int)(ws:Sl qa)(r0:List UInt8)(hw: ∀w∈ws.l,1<=w.length)(hs:qO (ws.l.map aB)<=1048576): ∀(r:List qa)(k:Nat)(out:qa),ws.l.drop k=r->out.length+qO (r.map aB)<=qO (ws.l.map aB)->
  qJ (yL (wC,ws,out,(k:Int),r0)) (fun t=>t.length<=qO (ws.l.map aB)):=by have hl:=Ha ws.l hw;intro r;induction r with|nil=>intro k out hk ho;rw[yL.eq_1,if_neg (by simpa using yq hk)];simp only[L?,qO]at ho;exact .ret o?|cons x r ih=>intro k out hk ho;obtain⟨a1,a2,a3,a4⟩:=wV hk;simp only[s?,qO,aB]at ho;have hx:=hw x a4;rw[yL.eq_1,if_pos (by simpa using a1),lg o? a1];refine .go a2 ?_;refine .tI ?_ ?_<;>intro hT;refine .bind .get fun c _=>?_;refine .bind (KN c) fun v _=>?_;refine .zz v? ?_;exact ih (k+1) _ a3 (by simp[aB];omega);refine .bind .get fun c _=>?_;refine .bind (V6 c) fun v _=>?_;refine .zz v? ?_;exact ih (k+1) _ a3 (by simp[aB];omega)
theorem V5(s:qa)(hs:s.length<=1048576)(wC:Int):qJ (sL s wC) (fun r=>r.1.length<=s.length):=by unfold sL;refine .tI ?_ ?_<;>intro hT;exact .bind (AY _ 0 s rfl o? o?) fun v hv=> .ret u?;refine .tI ?_ ?_<;>intro hT;exact .bind (AZ _ 0 s rfl o? o?) fun v hv=> .ret u?;refine .tI ?_ ?_<;>intro hT;refine .tI ?_ ?_<;>intro hT;refine .bind .get fun c _=>?_;refine .bind (V6 c) fun v _=>?_;exact .ret z?;exact .ret z?;refine .tI ?_ ?_<;>intro hT;refine .bind (E4 s hs) fun w hw=>?_;refine .bind (E0 wC w s hw.1 o? w.l 0 [] rfl z?) fun v hv=>?_;exact .ret u?;exact .ret z?
theorem Bf(fs:Sl zs)(hf:qO (fs.l.map om)<=1000000000)(parts:Sl qa)(hp: ∀p∈parts.l,p.length<=1048576):qJ (cJ fs parts) (fun r=>r.length<=1048576*qO (fs.l.map om)):=by
 have hl:=zZ ZK fs.l;unfold cJ;refine .bind (Yw fs o?) fun v hv=>?_;refine .tI ?_ ?_<;>intro hT;exact .ret z?;have hn:=hv hT;have key: ∀(r:List zs)(k:Nat)(s:qa),fs.l.drop k=r->s.length+1048576*qO (r.map om)<=1048576*qO (fs.l.map om)->qJ (zr (fs,parts,s,(k:Int))) (fun r=>r.length<=1048576*qO (fs.l.map om)):=by intro r;induction r with|nil=>intro k s hk hs;rw[zr.eq_1,if_neg (by simpa using yq hk)];exact .ret o?|cons f r ih=>(intro k s hk hs;obtain⟨a1,a2,a3,a4⟩:=wV hk;simp only[s?,qO]at hs;have hfw:om f=1+f.l9.length+f.Qv.length:=rfl;have hfn:=hn f a4;have next: ∀t:qa,t.length<=1048576*om f->qJ (if s.length+t.length<=2^62 then zr (fs,parts,(s++t),((k+1:Nat):Int))else none) (fun r=>r.length<=1048576*qO (fs.l.map om)):=by intro t ht;refine .zz o? (ih (k+1) _ a3 ?_);simp only[t?];omega);(have h1:=next f.l9 o?);(have h2:=next f.Qv o?);(have h3:=next [] z?);rw[zr.eq_1,if_pos (by simpa using a1),lg o? a1];refine .go a2 ?_;refine .ite (fun hc=>?_) fun hc=>?_;{(simp only[decide_eq_true_eq]at hc;refine .bind (n_ hfn hc) fun p hpp=>?_;have sZ:=hp p hpp.2;have h4:=next p o?);repeat' (first|exact h1|exact h2|exact h4|(refine .bind (V5 p sZ _) fun v hv=>?_;exact next v.1 (by omega))|refine .ite (fun _=>?_) (fun _=>?_))};repeat' (first|exact h1|exact h2|exact h3|(refine .bind (V5 [] (by simp) _) fun v hv=>?_;exact next v.1 (by simp only[e?]at hv;omega))|refine .ite (fun _=>?_) (fun _=>?_))
 exact .bind (key fs.l 0 [] rfl z?) fun v hv=> .ret hv
theorem YO(f:zn)(hf:vq f<=1000000000)(s:qa)(hs:s.length<=1048576)(g:Nat)(hg:g<=1000000000)(m:qj)(h0:0<=m.span.qI)(h1:m.span.qI<=m.span.to)(h2:m.span.to<=s.length)(hp:pa s g m.parts):
  qJ (dJ f s m) (fun r=>r.length<=1048576*1000000000):=by
 have sZ:=hp.len;have hfw:vq f=re f.rx+qO (f.wo.l.map om)+QP f.wo:=rfl;have key: ∀(r:List qn)(k:Nat)(ps:List qa),m.parts.l.drop k=r->ps.length=k+1->(∀ p∈ps,p.length<=1048576)->qJ (hQ (s,(k:Int),f,m,ps)) (fun r=> ∀p∈r,p.length<=1048576):=by intro r;induction r with|nil=>intro k ps hk hl Fh;rw[hQ.eq_1,if_neg (by simpa using yq hk)];exact .ret Fh|cons x r ih=>(intro k ps hk hl Fh;obtain⟨a1,a2,a3,a4⟩:=wV hk;have hx:=hp.ok x a4;have more: ∀p:qa,p.length<=1048576-> ∀q∈ps++[p],q.length<=1048576:=by intro p hp q hq;rcases m?.1 hq with hq|hq;exact Fh q hq;simp only[d?]at hq;subst hq;exact hp);(have gU:qg (ps.length+1) 16=true:=by simp only[qg,zQ,decide_eq_true_eq];omega);rw[hQ.eq_1,if_pos (by simpa using a1),lg o? a1];refine .go a2 ?_;refine .tI ?_ ?_<;>intro hT;rcases hx with hx|hx;omega;refine .bind (qJ.kv hx.1 hx.2.1 hx.2.2) fun y hy=>?_;exact .zz gU (ih (k+1) _ a3 v? (more y o?));exact .zz gU (ih (k+1) _ a3 v? (more [] z?))
 unfold dJ;refine .bind (qJ.kv h0 h1 h2) fun y hy=>?_;refine .bind (key m.parts.l 0 [y] rfl rfl v?) fun v hv=>?_;refine .bind (Bf f.wo o? ⟨false,v⟩ hv) fun w hw=>?_;refine .ret ?_;have:qO (f.wo.l.map om)<=1000000000:=o?;have:=Nat.mul_le_mul_left 1048576 this;omega
theorem Pp(f:zn)(hf:vq f<=1000000000)(s:qa)(hs:s.length<=1048576)(g:Nat)(hg:g<=1000000000)(ms:Sl qj)(Vc:ms.l.length<=1099511627776)(left:Int): ∀(r:List qj)(k:Nat)(a:Int)(out:qa),ms.l.drop k=r->Ms s g a r->out.length<=65536->
  qJ (uj (s,ms,left,out,a,(k:Int),f)) (fun v=>match v with| .inl y=>y.2.2.1≠0/\y.1=[]| .inr y=>y.1.length<=65536/\0<=y.2/\y.2<=s.length):=by intro r;induction r with|nil=>intro k a out hk hm ho;rw[uj.eq_1,if_neg (by simpa using yq hk)];exact .ret ⟨ho,hm⟩|cons x r ih=>intro k a out hk hm ho;obtain⟨a1,a2,a3,a4⟩:=wV hk;obtain⟨m1,m2,m3,m4,m5⟩:=hm;have m6:=m5.lo;rw[uj.eq_1,if_pos (by simpa using a1),lg o? a1];refine .go a2 ?_;have:= @YO;exact tW
theorem Bg(f:zn)(hf:vq f<=1000000000)(s:qa)(hs:s.length<=1048576)(g:Nat)(hg:g<=1000000000)(ms:List qj)(Vc:ms.length<=1099511627776)(left:Int)(b1:qj)(r2:List qj): ∀(r:List qj)(k:Nat)(a:Int)(out:qa),ms.drop k=r->Ms s g a r->out.length<=65536->
  qJ (wH (s,left,out,a,(k:Int),f,b1,r2,ms)) (fun v=>match v with| .inl y=>y.2.2.1≠0/\y.1=[]| .inr y=>y.1.length<=65536/\0<=y.2/\y.2<=s.length):=by intro r;induction r with|nil=>intro k a out hk hm ho;rw[wH.eq_1,if_neg (by simpa using yq hk)];exact .ret ⟨ho,hm⟩|cons x r ih=>intro k a out hk hm ho;obtain⟨a1,a2,a3,a4⟩:=wV hk;obtain⟨m1,m2,m3,m4,m5⟩:=hm;have m6:=m5.lo;rw[wH.eq_1,if_pos (by simpa using a1),lg o? a1];refine .go a2 ?_;have:= @YO;exact tW
theorem aG(f:zn)(hf:vq f<=1000000000)(s:qa)(hs:s.length<=1048576)(fuel:Int):qJ (hK f s fuel) (fun r=>r.1.length<=65536\/r.1=s):=by have hfw:vq f=re f.rx+qO (f.wo.l.map om)+QP f.wo:=rfl;have hgl:=Rp f.rx;unfold hK;refine .bind (Yx f o?) fun v hv=>?_;refine .tI ?_ ?_<;>intro hT;exact .ret (.inl z?);refine .tI ?_ ?_<;>intro hT;{refine .bind (D9 f.rx o? f.fold s hs fuel) fun w hw=>?_;refine .tI ?_ ?_<;>intro hT;exact .ret (.inl z?);have hM:=hw hT;refine .tI ?_ ?_<;>intro hT;exact .ret (.inr rfl);refine .bind (Pp f hf s hs (cZ f.rx) o? w.1 (by have:=hM.2;omega) w.2.1 w.1.l 0 0 [] rfl hM.1 z?) fun y hy=>?_;rcases y with y|y;exact .ret (.inl (by simp only[hy.2,e?];omega));simp only;(try simp(disch:=omega) only[qG,xC]);refine .tI ?_ ?_<;>intro hT;exact .ret (.inl z?);refine .bind (qJ.mo hy.2.1 hy.2.2) fun z hz=>?_;refine .zz o? ?_;exact .ret (.inl (by simp only[t?];omega))};refine .bind (P5 f.rx o? f.fold s hs 0 fuel) fun w hw=>?_;refine .tI ?_ ?_<;>intro hT;{have hM:=hw hT;refine .zz (by simp[qg]) ?_;refine .tI ?_ ?_<;>intro hT;exact .ret (.inl z?);(first|refine .ite (fun h=>absurd h (by simp)) fun _=>?_|skip);refine .bind (Bg f hf s hs (cZ f.rx) o? [w.1] z? w.2.1 w.1 [w.1] [w.1] 0 0 [] rfl hM z?) fun y hy=>?_;rcases y with y|y;exact .ret (.inl (by simp only[hy.2,e?];omega));simp only;(try simp(disch:=omega) only[qG,xC]);refine .tI ?_ ?_<;>intro hT;exact .ret (.inl z?);refine .bind (qJ.mo hy.2.1 hy.2.2) fun z hz=>?_;refine .zz o? ?_;exact .ret (.inl (by simp only[t?];omega))};refine .tI ?_ ?_<;>intro hT;exact .ret (.inl z?);first|exact .ite (fun _=> .ret (.inr rfl)) fun h=>absurd (by decide) h|exact .ret (.inr rfl)
namespace Xr
def bI(x:qr):Prop:=vq x.qR<=1000000000/\(∀ o∈x.opts.l,o.length<=17592186044416)/\QP x.opts=0/\x.opts.l.length<=8192002
theorem eb:Cored bI:=by intro x y h hy;simp only[core,Prod.mk.injEq]at h;unfold bI at*;rw[h.2.2.2.1,h.2.2.2.2];exact hy
abbrev World:=qa×Sl qy×List qb×Sl (Sl (Sl Int))
structure WK (w:World):Prop where
 ok:S2 bI w.1 w.2.1 w.2.2.1 w.2.2.2
 text:w.1.length<=65536
structure Xs (i:Nat) (w v:World):Prop where
 len:v.2.2.1.length=w.2.2.1.length
 cur: ∀(j:Nat) s,w.2.2.1[j]? =some s-> ∃s',v.2.2.1[j]? =some s' /\s'.cur=s.cur
 insts: ∀s,w.2.2.1[i]? =some s-> ∃s',v.2.2.1[i]? =some s' /\s'.insts.l.length=s.insts.l.length
theorem Xs.refl(i:Nat)(w:World):Xs i w w:=⟨rfl,fun j s h=>⟨s,h,rfl⟩,fun s h=>⟨s,h,rfl⟩⟩
theorem Xs.trans{i:Nat}{w v u:World}(h1:Xs i w v)(h2:Xs i v u):Xs i w u:=by refine⟨h2.len.trans h1.len,fun j s h=>?_,fun s h=>?_⟩;obtain⟨s',a,b⟩:=h1.cur j s h;obtain⟨s'',c,d⟩:=h2.cur j s' a;exact⟨s'',c,d.trans b⟩;obtain⟨s',a,b⟩:=h1.insts s h;obtain⟨s'',c,d⟩:=h2.insts s' a;exact⟨s'',c,d.trans b⟩
theorem ZJ{w:World}(h:S2 bI w.1 w.2.1 w.2.2.1 w.2.2.2){i a k:Nat}{s:qb}{x:qk}(hs:w.2.2.1[i]? =some s)(hx:s.insts.l[a]? =some x)(hk:k<x.stops.l.length):
  w.2.2.2.nil=false/\ ∃f,w.2.2.2.l[i]? =some f/\f.nil=false/\ ∃g,f.l[a]? =some g/\g.nil=false/\g.l.length=x.stops.l.length/\ ∃v,g.l[k]? =some v/\0<=v/\v<=3:=by have hi:=(qF hs).1;have ha:=(qF hx).1;refine⟨h.fnn fun c=>?_, ?_⟩;rw[c]at hi;simp at hi;obtain⟨f,hf⟩:=gl (l:=w.2.2.2.l) (k:=i) (by rw[h.KV];exact hi);have hF:=h.each i s f hs hf;obtain⟨g,hg⟩:=gl (l:=f.l) (k:=a) (by rw[hF.len];exact ha);obtain⟨q1,q2,q3⟩:=hF.each a x g hx hg;obtain⟨v,hv⟩:=gl (l:=g.l) (k:=k) o?;refine⟨f,hf,hF.nn fun c=>?_,g,hg,q2 fun c=>?_,q1,v,hv,q3 v (z7 hv)⟩;rw[c]at ha;simp at ha;rw[c]at hk;simp at hk
theorem Yc{w:World}(h:S2 bI w.1 w.2.1 w.2.2.1 w.2.2.2){i a k:Nat}{f:Sl (Sl Int)}{g:Sl Int}(hf:w.2.2.2.l[i]? =some f)(hg:f.l[a]? =some g)(v:Int)(hv:0<=v/\v<=3):
  S2 bI w.1 w.2.1 w.2.2.1 ⟨false,w.2.2.2.l.set i ⟨false,f.l.set a ⟨false,g.l.set k v⟩⟩⟩:=by have db:=(qF hf).1;have Vb:=(qF hg).1;refine⟨h.blen,h.ne,h.VJ,h.S7,h.K7,h.di,h.small,h.may,by simp[h.KV],fun _=>rfl, ?_,h.stop⟩;intro j s f' hs UZ;simp only[zm]at UZ;by_cases c:i=j;subst c;rw[if_pos ⟨rfl,db⟩]at UZ;cases UZ;have hF:=h.each i s f hs hf;refine⟨by simp[hF.len],fun _=>rfl, ?_⟩;intro b x g' hx hg';simp only[zm]at hg';by_cases d:a=b;subst d;rw[if_pos ⟨rfl,Vb⟩]at hg';cases hg';obtain⟨q1,q2,q3⟩:=hF.each a x g hx hg;refine⟨by simp[q1],fun _=>rfl,fun u hu=>?_⟩;rcases l! hu with hu|rfl;exact q3 u hu;exact hv;rw[if_neg o?]at hg';exact hF.each b x g' hx hg';rw[if_neg o?]at UZ;exact h.each j s f' hs UZ
theorem nilF{α:Type}{s:Sl α}(h:s.nil=false):(⟨false,s.l⟩:Sl α)=s:=by rw[<- h]
theorem num_L0(i a:Nat)(n:Int)(w:World)(h:S2 bI w.1 w.2.1 w.2.2.1 w.2.2.2)(s:qb)(x:qk)(hs:w.2.2.1[i]? =some s)(hx:s.insts.l[a]? =some x)(hL:x.stops.l.length<=2^12):
  ∀(d k:Nat)(held:List Bool),k+d=x.stops.l.length->held.length=x.stops.l.length-> ∃held',jm ((i:Int),(a:Int),n,(k:Int),w.1,w.2.1,w.2.2.1,w.2.2.2,x,held)=some (w.2.2.2,held')/\held'.length=x.stops.l.length:=by intro d;induction d with|zero=>intro k held hk hh;rw[jm.eq_1,if_neg v?];exact⟨held,rfl,hh⟩|succ d ih=>intro k held hk hh;obtain⟨z,f,hf,fz,g,hg,gz,gl',v,hv,_⟩:=ZJ h hs hx (show k<x.stops.l.length by omega);obtain⟨hb,hhb⟩:=gl (l:=held) (k:=k) o?;rw[jm.eq_1,if_pos v?,z,if_neg z?,gi hf,ws o?];simp only[zJ,qS];rw[fz,if_neg z?,gi hg];simp only[qS];rw[gz,if_neg z?,gi hv];simp only[qS];rw[gi hhb];simp only[qS,c?];rw[nilF z];exact ih (k+1) _ o? (by simp[hh])
theorem tm2(v:Int)(h:0<=v/\v<=3):0<=v.tmod 2/\v.tmod 2<=1:=by rcases(show v=0\/v=1\/v=2\/v=3 by omega)with rfl|rfl|rfl|rfl<;>decide
theorem num_L2(i a:Nat)(n src:Int)(w:World)(s:qb)(x:qk)(hs:w.2.2.1[i]? =some s)(hx:s.insts.l[a]? =some x)(hL:x.stops.l.length<=2^12):
  ∀(d k:Nat)(fl:Sl (Sl (Sl Int))),k+d=x.stops.l.length->S2 bI w.1 w.2.1 w.2.2.1 fl->(∀ f g,fl.l[i]? =some f->f.l[a]? =some g-> ∀j,j<k-> ∀v,g.l[j]? =some v->v<=1)->
  ∃UI,jn ((i:Int),(a:Int),n,src,(k:Int),w.1,w.2.1,w.2.2.1,fl,x)=some UI/\S2 bI w.1 w.2.1 w.2.2.1 UI/\(∀ f g,UI.l[i]? =some f->f.l[a]? =some g-> ∀j,j<x.stops.l.length-> ∀v,g.l[j]? =some v->v<=1):=by intro d;induction d with|zero=>intro k fl hk h H;rw[jn.eq_1,if_neg v?];exact⟨fl,rfl,h,fun f g hf hg j hj v hv=>H f g hf hg j o? v hv⟩|succ d ih=>intro k fl hk h H;obtain⟨z,f,hf,fz,g,hg,gz,gl',v,hv,hv3⟩:=ZJ (w:=(w.1,w.2.1,w.2.2.1,fl)) h hs hx (show k<x.stops.l.length by omega);simp only at z hf;rw[jn.eq_1,if_pos v?,z,if_neg z?,gi hf,ws o?];simp only[zJ,qS];rw[fz,if_neg z?,gi hg];simp only[qS];rw[gz,if_neg z?,gi hv];simp only[qS,c?];have h2:=tm2 v hv3;have pr:=Yc (w:=(w.1,w.2.1,w.2.2.1,fl)) (k:=k) h hf hg (v.tmod 2) o?;refine ih (k+1) _ o? pr fun f' g' UZ hg' j hj u hu=>?_;have db:=(qF hf).1;have Vb:=(qF hg).1;rw[zm,if_pos ⟨rfl,db⟩]at UZ;cases UZ;simp only at hg';rw[zm,if_pos ⟨rfl,Vb⟩]at hg';cases hg';simp only at hu;rw[zm]at hu;by_cases c:k=j;subst c;have pS:=(qF hv).1;rw[if_pos ⟨rfl,pS⟩]at hu;cases hu;exact h2.2;rw[if_neg o?]at hu;exact H f g hf hg j o? u hu
def Jz(i:Nat)(w:World)(v:(Int×World)⊕World):Prop:=match v with
 | .inl u=>u.1≠0
 | .inr u=>WK u/\Xs i w u
theorem Fv{i a j:Nat}{w:World}(hw:WK w){s:qb}{y:qk}{x:qr}(hs:w.2.2.1[i]? =some s)(hy:s.insts.l[a]? =some y)(hx:y.stops.l[j]? =some x)(t:qa)(ht:t.length<=65536):
  ∃v:World,jK (i:Int) (a:Int) (j:Int) (ql.mk x.span t) false w.1 w.2.1 w.2.2.1 w.2.2.2=some v/\S2 bI v.1 v.2.1 v.2.2.1 v.2.2.2/\Xs i w v:=by have hm:=hw.ok.may s (z7 hs);have h1:=(hm.may a y hy).inside j x hx;have h2:=(hm.may a y hy).le j x hx;have h3:=(hm.may a y hy).Zg;have Ji:=hw.text;have he:wv (ql.mk x.span t) w.1.length:=⟨u?,u?,u?,u?,o?⟩;obtain⟨v,g1,g2⟩:=Th eb hw.ok he u? (i:Int) (a:Int) (j:Int) false (.inr ⟨i,s,rfl,hs,o?,.inr ⟨a,j,y,x,rfl,rfl,hy,hx,Q7 _⟩⟩);exact⟨v,g1,g2.ok,⟨g2.len,g2.cur,fun s' oM=>g2.top i s' rfl o? oM⟩⟩
theorem YH(i a j:Nat)(n:Int)(t:qa)(ht:t.length<=65536)(b3:qk)(w:World)(hw:WK w)(hi:i<w.2.2.1.length)
  (next: ∀w' :World,WK w' ->Xs i w w' ->j<2^12->qJ (zp ((i:Int),(a:Int),n,t,((j+1:Nat):Int),w'.1,w'.2.1,w'.2.2.1,w'.2.2.2,b3)) (Jz i w)):
  qJ (zp ((i:Int),(a:Int),n,t,(j:Int),w.1,w.2.1,w.2.2.1,w.2.2.2,b3)) (Jz i w):=by
 obtain⟨s,hs⟩:=gl hi;have dF:=hw.ok.small s (z7 hs);rw[zp.eq_1];refine .go (gi hs) ?_;by_cases ha:a<s.insts.l.length
 ·obtain⟨y,hy⟩:=gl ha;have Fk:=dF.2 y (z7 hy);rw[if_pos (by simpa using ha)];refine .go (gi hy) ?_;by_cases hj:j<y.stops.l.length
  ·obtain⟨x,hx⟩:=gl hj;obtain⟨z,f,hf,fz,g,hg,gz,gl',v,hv,hv3⟩:=ZJ hw.ok hs hy hj;rw[if_pos (by simpa using hj)];refine .go (gi hx) ?_;rw[z,if_neg z?];refine .go (gi hf) ?_;rw[fz,if_neg z?];refine .go (gi hg) ?_;rw[gz,if_neg z?,nilF z,ws (k:=j) o?];have kF:=next w hw (.refl i w) o?
   have hm:=hw.ok.may s (z7 hs);have h1:=(hm.may a y hy).inside j x hx;have h2:=(hm.may a y hy).le j x hx;have h3:=(hm.may a y hy).Zg;have Z5:=hw.ok.stop s (z7 hs) y (z7 hy) x (z7 hx);have hcut:qJ (kv w.1 x.span.qI x.span.to) (fun _=>True):=(qJ.kv).mono fun _ _=>trivial;have MN: ∀(u:qa),u.length<=65536->qJ (jK (i:Int) (a:Int) (j:Int) (ql.mk x.span u) false w.1 w.2.1 w.2.2.1 w.2.2.2>>=fun v=>
     if(decide ((v.1.length:Int)>(65536:Int)))=true then some (.inl ((4:Int),v.1,v.2.1,v.2.2.1,v.2.2.2))
     else zp ((i:Int),(a:Int),n,t,((j+1:Nat):Int),v.1,v.2.1,v.2.2.1,v.2.2.2,b3)) (Jz i w):=by
    intro u hu;obtain⟨v,k1,k2,k3⟩:=Fv hw hs hy hx u hu;refine .go k1 ?_;by_cases c:(v.1.length:Int)>65536
    ·rw[if_pos (by simpa using c)];exact .ret (show (4:Int)≠0 by decide)
    rw[if_neg (by simpa using c)];exact next v ⟨k2,o?⟩ k3 o?
   refine .ite (fun _=>kF) fun _=>?_;refine .go (gi hv) ?_;refine .ite (fun _=>kF) fun _=>?_;refine .ite (fun _=>?_) fun _=>?_;refine .bind (aG x.qR Z5.1 t o? 20000) fun r hr=>?_;refine .ite (fun c=>?_) fun _=>?_;exact .ret (show r.2.2≠0 by simpa using c);refine .bind hcut fun q _=>?_;refine .ite (fun _=>kF) fun _=>?_;refine MN r.1 ?_;rcases hr with hr|hr;exact hr;rw[hr];exact ht;refine .bind hcut fun q _=>?_;exact .ite (fun _=>kF) fun _=>MN t ht
  rw[if_neg (by simpa using hj)];exact .ret ⟨hw,.refl i w⟩
 rw[if_neg (by simpa using ha)];exact .ret ⟨hw,.refl i w⟩
theorem Jz.trans{i:Nat}{w w' :World}(h:Xs i w w')(v:(Int×World)⊕World)(hv:Jz i w' v):Jz i w v:=by rcases v with v|v;exact hv;exact⟨hv.1,h.trans hv.2⟩
theorem num_L4(i a:Nat)(n:Int)(t:qa)(ht:t.length<=65536)(b3:qk): ∀(m j:Nat)(w:World),j+m=2^12->WK w->i<w.2.2.1.length->
  qJ (zp ((i:Int),(a:Int),n,t,(j:Int),w.1,w.2.1,w.2.2.1,w.2.2.2,b3)) (Jz i w):=by intro m;induction m with|zero=>intro j w hj hw hi;exact YH i a j n t ht b3 w hw hi fun w' _ _ h=>o?|succ m ih=>intro j w hj hw hi;refine YH i a j n t ht b3 w hw hi fun w' hw' hs _=>?_;exact(ih (j+1) w' o? hw' (by rw[hs.len];exact hi)).mono fun v hv=>Jz.trans hs v hv
def NumR(i:Nat)(w:World)(v:Int×World):Prop:=v.1≠0\/v.1=0/\WK v.2/\Xs i w v.2
theorem ff(i a:Nat)(n:Int)(w:World)(hw:WK w)(s:qb)(hs:w.2.2.1[i]? =some s)(ha:a<s.insts.l.length):
  qJ (uB (i:Int) (a:Int) n w.1 w.2.1 w.2.2.1 w.2.2.2) (NumR i w):=by obtain⟨y,hy⟩:=gl ha;have dF:=hw.ok.small s (z7 hs);have Fk:=dF.2 y (z7 hy);have hi:=(qF hs).1;have Ji:=hw.text;unfold uB;refine .go (gi hs) ?_;refine .go (gi hy) ?_;refine .zz o? ?_;refine .zz (qA v? o?) ?_;obtain⟨held,g1,g2⟩:=num_L0 i a n w hw.ok s y hs hy Fk y.stops.l.length 0 (List.replicate y.stops.l.length false) o? z?;rw[c?];refine .go g1 ?_;refine .bind (Rw y n ⟨false,held⟩ o?) fun src rE=>?_;rcases rE with rE|⟨k,x,rfl,hx⟩;rw[if_pos (by simpa using rE)];exact .ret (.inr ⟨rfl,hw,.refl i w⟩);rw[if_neg z?];have hk:=(qF hx).1;obtain⟨UI,q1,q2,q3⟩:=num_L2 i a n (k:Int) w s y hs hy Fk y.stops.l.length 0 w.2.2.2 o? hw.ok (fun f g _ _ j hj=>o?);refine .go q1 ?_;obtain⟨z,f,hf,fz,g,hg,gz,gl',v,hv,hv3⟩:=ZJ (w:=(w.1,w.2.1,w.2.2.1,UI)) q2 hs hy hk;simp only at z hf;have Z7:=q3 f g hf hg k hk v hv;rw[z,if_neg z?];refine .go (gi hf) ?_;rw[fz,if_neg z?];refine .go (gi hg) ?_;rw[gz,if_neg z?];refine .go (gi hv) ?_;refine .go (gi hx) ?_;have hm:=hw.ok.may s (z7 hs);have h1:=(hm.may a y hy).inside k x hx;have h2:=(hm.may a y hy).le k x hx;have h3:=(hm.may a y hy).Zg;refine .bind (qJ.kv (l:=w.1) (lo:=x.span.qI) (hi:=x.span.to) o? o? o?) fun t ht=>?_;have pr:=Yc (w:=(w.1,w.2.1,w.2.2.1,UI)) (k:=k) q2 hf hg (v+2) o?;rw[qG (n:=v+2) o? o?,c?,c?,c?];have SC:WK (w.1,w.2.1,w.2.2.1,(⟨false,UI.l.set i ⟨false,f.l.set a ⟨false,g.l.set k (v+2)⟩⟩⟩:Sl (Sl (Sl Int)))):=⟨pr,hw.text⟩;refine .bind (num_L4 i a n t o? y (2^12) 0 _ o? SC hi) fun r hr=>?_;rcases r with r|r;exact .ret (.inl hr);exact .ret (.inr ⟨rfl,hr.1,⟨hr.2.len,hr.2.cur,hr.2.insts⟩⟩)
end Xr
namespace Xr
theorem Rt{α:Type}{s:Sl α}(h:QP s<1000000000000000000):s.nil=s.l.isEmpty:=by unfold QP at h;split at h;assumption;omega
theorem Ru{α:Type}{s:Sl α}(h:s.nil=s.l.isEmpty):(⟨s.l.isEmpty,s.l⟩:Sl α)=s:=by cases s;simp only at h;rw[h]
abbrev GJ(x:qE):Prop:=re x<=1000000000
theorem Q0{Q:qE->Prop}(h: ∀x,GJ x->(∀ y∈x.qz.l,Q y)->Q x): ∀x,GJ x->Q x:=by
 have key: ∀n(x:qE),re x<n->GJ x->Q x:=by intro n;induction n with|zero=>intro x hx;omega|succ n ih=>intro x hx hw;refine h x hw fun y hy=>?_;have:=HR hy;exact ih y o? o?
 exact fun x hw=>key (re x+1) x o? hw
theorem Sg{x:qE}(h:GJ x):x.rows.l.length<=1000000000/\x.qz.l.length<=1000000000/\QP x.rows=0/\QP x.qz=0:=by
 have h1:=yn x;have h2:=zZ rY x.rows.l;have h3:=zZ ea x.qz.l;have h4: ∀{α:Type}(s:Sl α),QP s=0\/QP s=1000000000000000000:=fun s=>by unfold QP;split<;>simp
 have:=h4 x.rows;have:=h4 x.qz;omega
theorem rxClone: ∀x,GJ x->gp x=some x:=by
 refine Q0 fun x hx ih=>?_;obtain⟨l1,l2,l3,l4⟩:=Sg hx;have loop: ∀(x1 x2:qE)(r:List qE)(k:Nat)(acc:List qE),x.qz.l.drop k=r->acc.length+r.length<=1000000000->ku (x.qz,(x.qz.l.length:Int),(k:Int),x1,x2,acc)=some (acc++r):=by intro x1 x2 r;induction r with|nil=>intro k acc h _;have:=qW h;rw[ku.eq_1,if_neg v?];simp|cons y r H5=>intro k acc h ha;obtain⟨g1,g2,g3⟩:=zl h;simp only[g?]at ha;rw[ku.eq_1,if_pos v?,gi g1];simp only[zJ,qS,ih y (z7 g1)];rw[if_pos qA,ws o?,H5 (k+1) _ g2 v?];simp
 have hr:gr x.rows=some x.rows:=by have h:=Rt (s:=x.rows) o?;unfold gr;cases hn:x.rows.nil with|true=>rw[if_pos rfl,<- Ru h];rw[hn]at h;rw[q0z.1 h.symm];rfl|false=>rw[if_neg z?,if_pos qA,<- Ru h];rw[hn]at h;simp only[<- h]
 rw[gp.eq_1,hr];simp only[zJ,qS];have:=loop (qE.mk x.kind x.char x.not x.rows x.min x.max x.lazy x.qz) (qE.mk 0 [] false ⟨true,[]⟩ 0 0 false ⟨true,[]⟩) x.qz.l 0 [] rfl (by simpa using l2);rw[show ((0:Nat):Int)=0 from rfl]at this;rw[this];simp only[qS,F?];rw[Ru (Rt (s:=x.qz) o?)];cases x;rfl
theorem BJ{f:zn}(h:vq f<=1000000000):GJ f.rx/\f.wo.l.length<=1000000000/\QP f.wo=0:=by
 have h2:=zZ ZK f.wo.l;have h4:QP f.wo=0\/QP f.wo=1000000000000000000:=by unfold QP;split<;>simp
 unfold vq at h;unfold GJ;omega
theorem stopC_of{x:qr}(h:bI x):Y1 x:=by
 obtain⟨h1,_,h3,ho⟩:=h;obtain⟨g1,g2,g3⟩:=BJ h1;have gen: ∀{α:Type}(s:Sl α),QP s=0->s=⟨s.nil,s.l⟩/\(s.nil=true->s=⟨true,[]⟩)/\(s.nil=false->s=⟨false,s.l⟩):=by intro α s h;have:=Rt (s:=s) o?;refine⟨rfl,fun c=>?_,fun c=>?_⟩;cases s;simp only at c this;subst c;rw[q0z.1 this.symm];cases s;simp only at c;subst c;rfl
 refine⟨?_, ?_⟩;(have hf:gq x.qR.wo=some x.qR.wo:=by obtain⟨_,k2,k3⟩:=gen x.qR.wo g3;unfold gq;cases hn:x.qR.wo.nil with|true=>rw[if_pos rfl,<- k2 hn]|false=>rw[if_neg z?,if_pos qA,<- k3 hn]);unfold d9;simp only[rxClone _ g1,hf,zJ,qS];obtain⟨_,k2,k3⟩:=gen x.opts h3;unfold vH;cases hn:x.opts.nil with|true=>rw[if_pos rfl,<- k2 hn]|false=>rw[if_neg z?,if_pos qA,<- k3 hn]
end Xr
namespace Xr
theorem same_rx: ∀x,GJ x->gC (x,x)=some true:=by
 refine Q0 fun x hx ih=>?_;obtain⟨l1,l2,_,_⟩:=Sg hx;have r0: ∀(r:List qV)(k:Nat),x.rows.l.drop k=r->yK ((k:Int),x,x)=some (.inr ()):=by intro r;induction r with|nil=>intro k h;have:=qW h;rw[yK.eq_1,if_neg v?]|cons y r H5=>intro k h;obtain⟨g1,g2,g3⟩:=zl h;rw[yK.eq_1,if_pos v?,gi g1];simp only[zJ,qS];rw[if_neg z?,ws o?,H5 (k+1) g2]
 have k0: ∀(r:List qE)(k:Nat),x.qz.l.drop k=r->kT ((k:Int),x,x)=some (.inr ()):=by intro r;induction r with|nil=>intro k h;have:=qW h;rw[kT.eq_1,if_neg v?]|cons y r H5=>intro k h;obtain⟨g1,g2,g3⟩:=zl h;rw[kT.eq_1,if_pos v?,gi g1];simp only[zJ,qS,ih y (z7 g1)];rw[if_neg z?,ws o?,H5 (k+1) g2]
 have a0:=r0 x.rows.l 0 rfl;have b0:=k0 x.qz.l 0 rfl;rw[show ((0:Nat):Int)=0 from rfl]at a0 b0;rw[gC.eq_1,if_neg z?,a0];simp only[zJ,qS,b0]
theorem Av{f:zn}(h:vq f<=1000000000):kl f f=some true:=by
 obtain⟨g1,g2,_⟩:=BJ h;have r0: ∀(r:List zs)(k:Nat),f.wo.l.drop k=r->kb ((k:Int),f,f)=some (.inr ()):=by intro r;induction r with|nil=>intro k h;have:=qW h;rw[kb.eq_1,if_neg v?]|cons y r H5=>intro k h;obtain⟨g1,g2,g3⟩:=zl h;rw[kb.eq_1,if_pos v?,gi g1];simp only[zJ,qS];rw[if_neg z?,ws o?,H5 (k+1) g2]
 have a0:=r0 f.wo.l 0 rfl;rw[show ((0:Nat):Int)=0 from rfl]at a0;unfold kl;rw[same_rx _ g1];simp only[zJ,qS];rw[if_neg z?,a0];rfl
theorem Aw{x:qr}(h:bI x):mU x x=some true:=by
 have ho:=h.2.2.2;have r0: ∀(r:List qa)(k:Nat),x.opts.l.drop k=r->uk (x.opts,x.opts,(k:Int))=some (.inr ()):=by intro r;induction r with|nil=>intro k h;have:=qW h;rw[uk.eq_1,if_neg v?]|cons y r H5=>intro k h;obtain⟨g1,g2,g3⟩:=zl h;rw[uk.eq_1,if_pos v?,gi g1];simp only[zJ,qS];rw[if_neg z?,ws o?,H5 (k+1) g2]
 have a0:=r0 x.opts.l 0 rfl;rw[show ((0:Nat):Int)=0 from rfl]at a0;have ht:cM x.opts x.opts=some true:=by unfold cM;rw[if_neg z?,a0];rfl
 unfold mU;rw[if_pos z?,Av h.1];simp only[zJ,qS,if_true,ht]
theorem HS(s:qb)(hs:xD s)(h: ∀i∈s.insts.l,∀ x∈i.stops.l,bI x):xU s s=some true:=by
 have nH:=hs.1;have inst: ∀i∈s.insts.l,mT i i=some true:=by (intro i hi;have hl:=hs.2 i hi;have r0: ∀(r:List qr)(k:Nat),i.stops.l.drop k=r->we ((k:Int),i,i)=some (.inr ()):=by intro r;induction r with|nil=>intro k h;have:=qW h;rw[we.eq_1,if_neg v?]|cons y r H5=>intro k hk;obtain⟨g1,g2,g3⟩:=zl hk;rw[we.eq_1,if_pos v?,gi g1];simp only[zJ,qS,Aw (h i hi y (z7 g1))];rw[if_neg z?,ws o?,H5 (k+1) g2]);have a0:=r0 i.stops.l 0 rfl;rw[show ((0:Nat):Int)=0 from rfl]at a0;unfold mT;rw[if_neg z?,a0];rfl
 have r0: ∀(r:List qk)(k:Nat),s.insts.l.drop k=r->jE ((k:Int),s,s)=some (.inr ()):=by intro r;induction r with|nil=>intro k h;have:=qW h;rw[jE.eq_1,if_neg v?]|cons y r H5=>intro k hk;obtain⟨g1,g2,g3⟩:=zl hk;rw[jE.eq_1,if_pos v?,gi g1];simp only[zJ,qS,inst y (z7 g1)];rw[if_neg z?,ws o?,H5 (k+1) g2]
 have a0:=r0 s.insts.l 0 rfl;rw[show ((0:Nat):Int)=0 from rfl]at a0;unfold xU;rw[if_neg z?,a0];rfl
end Xr
namespace Xr
structure Jy (w v:World):Prop where
 len:v.2.2.1.length=w.2.2.1.length
 cur: ∀(j:Nat) s,w.2.2.1[j]? =some s-> ∃s',v.2.2.1[j]? =some s' /\s'.cur=s.cur
theorem Jy.refl(w:World):Jy w w:=⟨rfl,fun j s h=>⟨s,h,rfl⟩⟩
theorem Jy.trans{w v u:World}(h1:Jy w v)(h2:Jy v u):Jy w u:=by refine⟨h2.len.trans h1.len,fun j s h=>?_⟩;obtain⟨s',a,b⟩:=h1.cur j s h;obtain⟨s'',c,d⟩:=h2.cur j s' a;exact⟨s'',c,d.trans b⟩
theorem Xs.ZV{i:Nat}{w v:World}(h:Xs i w v):Jy w v:=⟨h.len,h.cur⟩
def MirQ(w:World)(v:(Int×World)⊕World):Prop:=match v with
 | .inl u=>u.1≠0
 | .inr u=>WK u/\Jy w u
theorem mir_L4(i a:Nat)(ns:Sl Int)(hn:ns.l.length<=2^12): ∀(d k:Nat)(w:World),k+d=ns.l.length->WK w->(∃ s,w.2.2.1[i]? =some s/\a<s.insts.l.length)->
  qJ (jl ((i:Int),(a:Int),ns,(k:Int),w.1,w.2.1,w.2.2.1,w.2.2.2)) (Jz i w):=by intro d;induction d with|zero=>intro k w h hw _;rw[jl.eq_1,if_neg v?];exact .ret ⟨hw,.refl i w⟩|succ d ih=>intro k w h hw hs;obtain⟨s,hs,ha⟩:=hs;obtain⟨x,hx⟩:=gl (l:=ns.l) (k:=k) o?;rw[jl.eq_1,if_pos v?,ws (k:=k) o?];refine .go (gi hx) ?_;refine .bind (ff i a x w hw s hs ha) fun v hv=>?_;rcases hv with hv|⟨h0,h1,h2⟩;rw[if_pos (by simpa using hv)];exact .ret hv;rw[if_neg (by simpa using h0)];obtain⟨s',k1,k2⟩:=h2.insts s hs;exact(ih (k+1) v.2 o? h1 ⟨s',k1,o?⟩).mono fun u hu=>Jz.trans h2 u hu
theorem mir_L2(i:Nat): ∀(d a:Nat)(w:World),WK w->(∃ s,w.2.2.1[i]? =some s/\a+d=s.insts.l.length)->
  qJ (jk ((i:Int),(a:Int),w.1,w.2.1,w.2.2.1,w.2.2.2)) (Jz i w):=by intro d;induction d with|zero=>intro a w hw hs;obtain⟨s,hs,ha⟩:=hs;rw[jk.eq_1];refine .go (gi hs) ?_;rw[if_neg v?];exact .ret ⟨hw,.refl i w⟩|succ d ih=>intro a w hw hs;obtain⟨s,hs,ha⟩:=hs;have dF:=hw.ok.small s (z7 hs);have nH:=dF.1;obtain⟨y,hy⟩:=gl (l:=s.insts.l) (k:=a) o?;rw[jk.eq_1];refine .go (gi hs) ?_;rw[if_pos v?];refine .go (gi hy) ?_;refine .bind (FG y (dF.2 y (z7 hy))) fun ns Fc=>?_;refine .bind (mir_L4 i a ns Fc ns.l.length 0 w o? hw ⟨s,hs,o?⟩) fun v hv=>?_;rcases v with v|v;exact .ret hv;obtain⟨h1,h2⟩:=hv;obtain⟨s',k1,k2⟩:=h2.insts s hs;simp only;rw[ws (k:=a) o?];exact(ih (a+1) v h1 ⟨s',k1,o?⟩).mono fun u hu=>Jz.trans h2 u hu
theorem mir_L0: ∀(i:Nat)(w:World),i<=w.2.2.1.length->WK w->qJ (jj ((i:Int)-1,w.1,w.2.1,w.2.2.1,w.2.2.2)) (MirQ w):=by intro i;induction i with|zero=>intro w _ hw;rw[jj.eq_1,if_neg z?];exact .ret ⟨hw,.refl w⟩|succ i ih=>intro w hi hw;have Ed:=hw.ok.di;obtain⟨s,hs⟩:=gl (l:=w.2.2.1) (k:=i) o?;rw[show ((i+1:Nat):Int)-1=(i:Int) by omega,jj.eq_1,if_pos z?,qG (n:=(i:Int)-1) o? o?];refine .bind (mir_L2 i s.insts.l.length 0 w hw ⟨s,hs,o?⟩) fun v hv=>?_;rcases v with v|v;exact .ret hv;obtain⟨h1,h2⟩:=hv;refine(ih v (by rw[h2.len];omega) h1).mono fun u hu=>?_;rcases u with u|u;exact hu;exact⟨hu.1,h2.ZV.trans hu.2⟩
theorem Wo(w:World)(hw:WK w):qJ (wO w.1 w.2.1 w.2.2.1 w.2.2.2) (fun v=>v.1≠0\/v.1=0/\WK v.2/\Jy w v.2):=by have Ed:=hw.ok.di;unfold wO;rw[qG (n:=(w.2.2.1.length:Int)-1) o? o?];refine .bind (mir_L0 w.2.2.1.length w (jv _) hw) fun v hv=>?_;rcases v with v|v;exact .ret (.inl hv);exact .ret (.inr ⟨rfl,hv.1,hv.2⟩)
end Xr
namespace Xr
section
variable {α:Type} (key:α->qn)
theorem pos_map(x:α)(s:List α): ∀k,pos key x s k=pos id (key x) (s.map key) k:=by intro k;induction k with|zero=>rfl|succ k ih=>rw[pos,pos,List.getElem?_map];cases s[k]? with|none=>rfl|some y=>simp only[Option.map_some,id,ih]
theorem Lt(x:α)(s:List α):(sA key s x).map key=sA id (s.map key) (key x):=by unfold sA;rw[pos_map key x s s.length,m_];simp[List.map_take,List.map_drop]
theorem Tc: ∀(r s:List α),(jd key s r).map key=jd id (s.map key) (r.map key):=by intro r;induction r with|nil=>intro s;rfl|cons x r ih=>intro s;show(jd key (sA key s x) r).map key=jd id (sA id (s.map key) (key x)) (r.map key);rw[ih,Lt]
end
def gE(e:ql):Int:=(e.text.length:Int)-(e.span.to-e.span.qI)
def sa(l:List ql):Int:=(l.map gE).sum
def wR(l:List ql):Nat:=(l.map fun e=>e.text.length).sum
theorem sumG_le{n:Int}: ∀(l:List ql),(∀ e∈l,e.span.qI<=e.span.to)->sa l<=wR l:=by intro l;induction l with|nil=>intro _;simp[sa,wR]|cons e l ih=>intro h;have h1:=h e z?;have h2:=ih fun e' Vz=>h e' (by simp[Vz]);simp only[sa,wR,s?,v!,gE]at*;omega
theorem AP{l r:List ql}(h:l.Perm r):sa l=sa r:=by induction h with|nil=>rfl|cons x _ ih=>simp only[sa,s?,v!]at *; omega|swap x y l=>simp only[sa,s?,v!];omega|trans _ _ ih1 H5=>exact ih1.trans H5
theorem AQ{l r:List ql}(h:l.Perm r):wR l=wR r:=by induction h with|nil=>rfl|cons x _ ih=>simp only[wR,s?,v!]at *; omega|swap x y l=>simp only[wR,s?,v!];omega|trans _ _ ih1 H5=>exact ih1.trans H5
def Lo(n:Int)(p:qn):Prop:=0<=p.qI/\p.qI<=p.to/\p.to<=n
theorem SO(p:qn)(n:Int): ∃b:Bool,rX p n=some b/\(b=true↔Lo n p):=by unfold rX Lo;by_cases h1:0<=p.qI<;>by_cases h2:p.qI<=p.to<;>simp[h1,h2]
theorem sumT_sp{n:Int}(hn:0<=n): ∀(l:List ql),(∀ e∈l,Lo n e.span)->(wR l:Int)<=sa l+l.length*n:=by intro l;induction l with|nil=>intro _;simp[sa,wR]|cons e l ih=>intro h;have h1:=h e z?;have h2:=ih fun e' Vz=>h e' (by simp[Vz]);unfold Lo at h1;simp only[sa,wR,s?,v!,gE,g?]at*;push_cast at*;rw[Int.add_mul];omega
structure JX (n:Int) (es:List ql):Prop where
 K7: ∀e∈es,Lo n e.span
 apart:(jd (·.span) [] es).Pairwise fun a b=>a.span.to<=b.span.qI
theorem FP(n:Int)(es:Sl ql)(hl:es.l.length<2^60): ∀(r:List ql)(k:Nat),es.l.drop k=r-> ∃v,uG (n,es,(k:Int))=some v/\(v= .inl 3\/v= .inr ()/\ ∀e∈r,Lo n e.span):=by intro r;induction r with|nil=>intro k h;have:=qW h;rw[uG.eq_1,if_neg v?];exact⟨_,rfl,.inr ⟨rfl,z?⟩⟩|cons e r ih=>intro k h;obtain⟨h1,h2,h3⟩:=zl h;obtain⟨b,g1,g2⟩:=SO e.span n;rw[uG.eq_1,if_pos v?,gi h1,ws (k:=k) o?];simp only[zJ,qS,g1];cases b with|false=>exact⟨_,rfl,.inl rfl⟩|true=>obtain⟨v,q1,q2⟩:=ih (k+1) h2;rw[if_neg z?,q1];refine⟨v,rfl, ?_⟩;rcases q2 with q2|⟨q2,q3⟩;exact .inl q2;refine .inr ⟨q2,fun e' Vz=>?_⟩;rcases U?.1 Vz with rfl|Vz;exact g2.1 rfl;exact q3 e' Vz
theorem AJ(es:Sl ql)(hl:es.l.length<=2^20): ∀(r:List ql)(k:Nat)(out:List qn),es.l.drop k=r->out.length=k->gQ (es,(k:Int),out)=some (out++r.map (·.span)):=by intro r;induction r with|nil=>intro k out h _;have:=qW h;rw[gQ.eq_1,if_neg v?];simp|cons e r ih=>intro k out h ho;obtain⟨h1,h2,h3⟩:=zl h;rw[gQ.eq_1,if_pos v?,gi h1,ws (k:=k) o?];simp only[zJ,qS];rw[if_pos qA,ih (k+1) (out++[e.span]) h2 v?];simp
theorem O0(s:Sl qn)(hl:s.l.length<2^60): ∀(d k:Nat),k+d=s.l.length-> ∃v,yR (s,(k:Int))=some v/\(v= .inl false\/v= .inr ()/\ ∀(j:Nat) x,k<=j->s.l[j]? =some x->x.qI<=x.to/\(∀ y,0<j->s.l[j-1]? =some y->y.to<=x.qI)):=by intro d;induction d with|zero=>intro k h;rw[yR.eq_1,if_neg v?];exact⟨_,rfl,.inr ⟨rfl,fun j x hj hx=>by have:=(qF hx).1;omega⟩⟩|succ d ih=>intro k h;obtain⟨x,hx⟩:=gl (l:=s.l) (k:=k) o?;obtain⟨v,q1,q2⟩:=ih (k+1) o?;rw[yR.eq_1,if_pos v?,gi hx,ws (k:=k) o?];simp only[zJ,qS];by_cases c1:x.qI>x.to;rw[if_pos (by simpa using c1)];exact⟨_,rfl,.inl rfl⟩;rw[if_neg (by simpa using c1)];cases k with|zero=>rw[if_neg z?,q1];refine⟨v,rfl, ?_⟩;rcases q2 with q2|⟨q2,q3⟩;exact .inl q2;refine .inr ⟨q2,fun j z hj hz=>?_⟩;by_cases c:j=0;subst c;rw[hx]at hz;cases hz;exact⟨o?,fun y hy=>o?⟩;exact q3 j z o? hz|succ k=>obtain⟨y,hy⟩:=gl (l:=s.l) (k:=k) o?;rw[if_pos (by simp<;>omega),show q?.wrap (((k+1:Nat):Int)-1)=(k:Int)from by rw[qG o? o?];omega,gi hy];simp only[qS];by_cases c2:x.qI<=y.qI;rw[if_pos (by simpa using c2)];exact⟨_,rfl,.inl rfl⟩;rw[if_neg (by simpa using c2)];by_cases c3:x.qI<y.to;rw[if_pos (by simpa using c3)];exact⟨_,rfl,.inl rfl⟩;rw[if_neg (by simpa using c3),q1];refine⟨v,rfl, ?_⟩;rcases q2 with q2|⟨q2,q3⟩;exact .inl q2;refine .inr ⟨q2,fun j z hj hz=>?_⟩;by_cases c:j=k+1;subst c;rw[hx]at hz;cases hz;refine⟨o?,fun y' _ hy' =>?_⟩;rw[Z_,hy]at hy';cases hy';omega;exact q3 j z o? hz
theorem KJ(s:List qn)(h: ∀(j:Nat) x,s[j]? =some x->x.qI<=x.to/\(∀ y,0<j->s[j-1]? =some y->y.to<=x.qI)):s.Pairwise fun a b=>a.to<=b.qI:=by
 rw[b!];intro i j hi hj Ef;have key: ∀(d:Nat)(x:qn),s[i+1+d]? =some x->(s[i]'hi).to<=x.qI:=by intro d;induction d with|zero=>intro x hx;exact(h (i+1) x hx).2 _ o? (by rw[Z_];exact wx hi)|succ d ih=>intro x hx;have hl:=(qF hx).1;obtain⟨y,hy⟩:=gl (l:=s) (k:=i+1+d) o?;have h1:=ih y hy;have h2:=(h (i+1+d) y hy).1;have h3:=(h (i+1+(d+1)) x hx).2 y o? (by rw[show i+1+(d+1)-1=i+1+d by omega];exact hy);omega
 have:=key (j-(i+1)) (s[j]'hj) (by rw[show i+1+(j-(i+1))=j by omega];exact wx hj);exact this
theorem OK(es:Sl ql)(hl:es.l.length<=2^20)(hb: ∀e∈es.l,-(2^36)<=e.span.to-e.span.qI/\e.span.to-e.span.qI<=2^36): ∀(r:List ql)(k:Nat)(n:Int),es.l.drop k=r-> -(k:Int)*2^38-2^40<=n->n+wR r+r.length*2^36<=2^61->gO (n,es,(k:Int))=some (n+sa r):=by intro r;induction r with|nil=>intro k n h _ _;have:=qW h;rw[gO.eq_1,if_neg v?];simp[sa]|cons e r ih=>(intro k n h Eh T4;obtain⟨h1,h2,h3⟩:=zl h;obtain⟨b2,b3⟩:=hb e (z7 h1);have JO:(k:Int)<=2^20:=o?;have hT:(wR (e::r):Int)=e.text.length+wR r:=by simp[wR]);simp only[g?]at T4;rw[hT]at T4;rw[gO.eq_1,if_pos v?,gi h1,ws (k:=k) o?];simp only[zJ,qS];rw[qG (n:=n+(e.text.length:Int)) o? o?,qG (n:=e.span.to-e.span.qI) o? o?,qG (n:=n+(e.text.length:Int)-(e.span.to-e.span.qI)) o? o?];rw[ih (k+1) _ h2 (by push_cast;omega) (by push_cast;omega)];simp only[sa,s?,v!,gE];congr 1;omega
theorem SP(n:Int)(hn:0<=n/\n<=2^36)(es:Sl ql)(hl:es.l.length<=2^19)(ht:wR es.l<=2^60):qJ (iL n es) (fun v=>v=0->JX n es.l/\n+sa es.l<=65536):=by
 have hR:qJ (cX n es) (fun v=>v=0->JX n es.l):=by unfold cX;obtain⟨v,g1,g2⟩:=FP n es o? es.l 0 rfl;refine .go g1 ?_;rcases g2 with rfl|⟨rfl,g2⟩;exact .ret fun h=>absurd h (by decide);(have hs:ae es=some ⟨(es.l.map (·.span)).isEmpty,es.l.map (·.span)⟩:=by unfold ae;rw[show (0:Int)=((0:Nat):Int)from rfl,AJ es o? es.l 0 [] rfl rfl];rfl);(refine .go hs ?_;have sZ:=(tO id (es.l.map (·.span)) []).length_eq;simp only[F?,m_]at sZ;have hA:qJ (fY ⟨(es.l.map (·.span)).isEmpty,es.l.map (·.span)⟩) (fun b=>b=true->(jd id [] (es.l.map (·.span))).Pairwise fun a b=>a.to<=b.qI):=by unfold fY;refine .go (Mi _ v?) ?_;obtain⟨w,q1,q2⟩:=O0 ⟨(jd id [] (es.l.map (·.span))).isEmpty,jd id [] (es.l.map (·.span))⟩ u? (jd id [] (es.l.map (·.span))).length 0 z?;refine .go q1 ?_;rcases q2 with rfl|⟨rfl,q2⟩;exact .ret z?;exact .ret fun _=>KJ _ fun j x hx=>q2 j x o? hx);refine .bind hA fun b hb=>?_;refine .ite (fun _=> .ret fun h=>absurd h (by decide)) fun c=> .ret fun _=>⟨g2, ?_⟩;have jo:=hb (by simpa using c);rw[show jd id [] (es.l.map (·.span))=(jd (·.span) [] es.l).map (·.span)from(Tc (fun x:ql=>x.span) es.l []).symm]at jo;exact List.pairwise_map.1 jo
 unfold iL;refine .bind hR fun v hv=>?_;refine .ite (fun c=> .ret fun h=>absurd h (by simpa using c)) fun c=>?_;have df:=hv (by simpa using c);have hG:a7 n es=some (n+sa es.l):=by unfold a7;rw[show (0:Int)=((0:Nat):Int)from rfl,OK es o? (fun e he=>⟨by have:=df.K7 e he;unfold Lo at this;omega,by have:=df.K7 e he;unfold Lo at this;omega⟩) es.l 0 n rfl o? o?];rfl
 refine .go hG ?_;refine .ite (fun _=> .ret fun h=>absurd h (by decide)) fun c=> .ret fun _=>⟨df,by simpa using c⟩
end Xr
namespace Xr
abbrev WO(w:World):=S2 bI w.1 w.2.1 w.2.2.1 w.2.2.2
theorem S2.take{w:World}(h:WO w)(n:Nat):S2 bI w.1 w.2.1 (w.2.2.1.take n) ⟨w.2.2.2.nil,w.2.2.2.l.take n⟩:=by
 have get: ∀(j:Nat) s,(w.2.2.1.take n)[j]? =some s->w.2.2.1[j]? =some s:=fun j s hs=>by exact tW
 refine⟨h.blen,h.ne,h.VJ,h.S7,h.K7,by have:=h.di;simp;omega,fun s hs=>h.small s (W? hs),fun s hs=>h.may s (W? hs),by simp[h.KV],fun c=>h.fnn fun c2=>c (by rw[c2];simp), ?_,fun s hs=>h.stop s (W? hs)⟩;intro j s f hs hf;have hj:=(qF hf).1;simp at hj;simp only at hf;rw[Y? o?]at hf;exact h.each j s f (get j s hs) hf
theorem lead_L2(n:Nat)(l:Sl ql)(n0:Int)(Gk:0<=n0/\n0<=65536)(hT:wR l.l<=2^36)(dE: ∀e∈l.l,0<=e.span.qI/\e.span.qI<=e.span.to)(hap:l.l.Pairwise fun a b=>a.span.to<=b.span.qI)(Fa:l.l.length<=2^20):
  ∀(k:Nat)(w:World),k<=l.l.length->WO w->w.2.2.1.length=n->(w.1.length:Int)=n0+sa (l.l.drop k)->(∀ e∈l.l.take k,e.span.to<=w.1.length)->
  qJ (xJ ((n:Int),l,(k:Int)-1,w.1,w.2.1,w.2.2.1,w.2.2.2)) (fun v:World=>WO v/\(v.1.length:Int)=n0+sa l.l/\Jy w v):=by
 intro k;induction k with
  |zero=>intro w _ hw _ hlen _;rw[xJ.eq_1,if_neg z?];exact .ret ⟨hw,by simpa using hlen,.refl w⟩
  |succ k ih=>
   (intro w hk hw hwn hlen hto;obtain⟨e,he⟩:=gl (l:=l.l) (k:=k) o?;have hem:=z7 he;have hei:=dE e hem;have hd:l.l.drop k=e::l.l.drop (k+1):=by have Xm:=(qF he).1;rw[z_ Xm];rw[wx Xm]at he;cases he;rfl);(have htk:e∈l.l.take (k+1):=by rw[List.take_add_one,he];simp);(have dw:=hto e htk;have hsT: ∀j,wR (l.l.drop j)<=wR l.l:=by intro j;have:=s_ j l.l;have h5:=congrArg wR this;simp only[wR,Y!,List.sum_append]at h5 |-;omega);(have hsg:=sumG_le (n:=0) (l.l.drop (k+1)) fun e' Vz=>(dE e' (List.mem_of_mem_drop Vz)).2;have ht1:=hsT (k+1);have ht0:=hsT k;have het:e.text.length<=wR (l.l.drop k):=by rw[hd];simp only[wR,s?,v!];omega);(have hE:wv e w.1.length:=⟨o?,o?,o?,o?,o?⟩;have hnext: ∀(v:World),WO v->v.1=newText w.1 e->Jy w v->qJ (xJ ((n:Int),l,(k:Int)-1,v.1,v.2.1,v.2.2.1,v.2.2.2)) (fun v:World=>WO v/\(v.1.length:Int)=n0+sa l.l/\Jy w v):=by intro v hv ht hs;have Le:=Jo w.1 e hE;rw[<- ht]at Le;refine(ih v o? hv (by rw[hs.len];exact hwn) ?_ ?_).mono fun u hu=>⟨hu.1,hu.2.1,hs.trans hu.2.2⟩;rw[hd];simp only[sa,s?,v!,gE]at hlen |-;omega;(intro e' Vz;obtain⟨j,hj⟩:=kh Vz;have MK:j<k:=by have:=(qF hj).1;simp at this;omega);rw[Y? MK]at hj;have Gj:=(qF hj).1;have pS:=(qF he).1;have:=b!.1 hap j k Gj pS MK;rw[wx Gj]at hj;rw[wx pS]at he;cases hj;cases he;omega);rw[show ((k+1:Nat):Int)-1=(k:Int) by omega,xJ.eq_1,if_pos z?,show q?.wrap ((k:Int)-1)=(k:Int)-1 from qG o? o?];have Ed:=hw.di;by_cases hn:0<n
   ·obtain⟨s,hs⟩:=gl (l:=w.2.2.1) (k:=n-1) o?;rw[if_pos (by simpa using hn),show q?.wrap ((n:Int)-1)=((n-1:Nat):Int)from by rw[qG o? o?];omega];refine .go (gi hs) ?_;refine .go (gi he) ?_;refine .bind (XW s e.span (hw.small s (z7 hs))) fun o ho=>?_;obtain⟨v,g1,g2⟩:=Th eb hw hE o? ((n-1:Nat):Int) o.1 o.2 true (by
     rcases ho with rfl|ho
     ·exact .inl ⟨rfl,rfl⟩
     have:=ho.nat
     obtain⟨a',k',i,x,q1,q2,q3,q4,_,_,q5⟩:=ho
     exact .inr ⟨n-1,s,rfl,hs,o?,.inr ⟨a',k',i,x,q1,q2,q3,q4,q5⟩⟩)
    refine .go g1 ?_;exact hnext v g2.ok g2.text ⟨g2.len,g2.cur⟩
   rw[if_neg (by simpa using hn)];refine .go (gi he) ?_;obtain⟨v,g1,g2⟩:=Th eb hw hE o? (q?.wrap ((n:Int)-1)) (-1) (-1) true (.inl ⟨rfl,rfl⟩);refine .go g1 ?_;exact hnext v g2.ok g2.text ⟨g2.len,g2.cur⟩
theorem lead_L0(es:Sl ql)(he:es.l.length<2^60)(w:qa)(w2:Sl qy)(ss:List qb)(fl:Sl (Sl (Sl Int)))(hs: ∀s∈ss,xD s)(Ed:ss.length<=16): ∀k,k<=ss.length->qJ (jZ (es,(k:Int),w,w2,ss,fl)) (fun v=> ∃n:Nat,v=n/\n<=k):=by intro k;induction k with|zero=>intro _;rw[jZ.eq_1,if_neg z?];exact .ret ⟨0,rfl,jv _⟩|succ k ih=>intro hk;obtain⟨s,nH⟩:=gl (l:=ss) (k:=k) o?;rw[jZ.eq_1,if_pos (by simp<;>omega),show q?.wrap (((k+1:Nat):Int)-1)=(k:Int)from by rw[qG o? o?];omega];refine .go (gi nH) ?_;refine .bind (AL s es (hs s (z7 nH)) he) fun b _=>?_;refine .ite (fun _=>?_) fun _=> .ret ⟨k+1,rfl,jv _⟩;exact tW
structure Led (w:World) (es:List ql) (v:World):Prop where
 ok:WO v
 text:(v.1.length:Int)=w.1.length+sa es
 len:v.2.2.1.length<=w.2.2.1.length
 cur: ∀(j:Nat) s',v.2.2.1[j]? =some s' -> ∃s,w.2.2.1[j]? =some s/\s'.cur=s.cur
theorem cB(w:World)(hw:WO w)(hn:w.1.length<=65536)(es:Sl ql)(hE:JX w.1.length es.l)(hT:wR es.l<=2^36)(hl:es.l.length<=2^19):qJ (yX es w.1 w.2.1 w.2.2.1 w.2.2.2) (Led w es.l):=by
 have hp:=tO (·.span) es.l [];simp only[F?]at hp;have sZ:=hp.length_eq;unfold yX;refine .bind (lead_L0 es o? w.1 w.2.1 w.2.2.1 w.2.2.2 hw.small hw.di w.2.2.1.length (jv _)) fun v hv=>?_;obtain⟨n,rfl,hnl⟩:=hv;refine .go (JI _ _ hnl) ?_;refine .go (JI _ _ (by rw[hw.KV];exact hnl)) ?_;refine .go (Mj es o?) ?_;have SC:=hw.take n;have sx: ∀e∈jd (·.span) [] es.l,Lo w.1.length e.span:=fun e he=>hE.K7 e (hp.mem_iff.1 he);have hd0:sa ((jd (·.span) [] es.l).drop (jd (·.span) [] es.l).length)=0:=by simp[sa]
 have h:=lead_L2 n ⟨(jd (·.span) [] es.l).isEmpty,jd (·.span) [] es.l⟩ w.1.length o? (by simp only;rw[AQ hp];exact hT) (fun e he=>by have:=sx e he;unfold Lo at this;omega) hE.apart u?
  (jd (·.span) [] es.l).length (w.1,w.2.1,w.2.2.1.take n,⟨w.2.2.2.nil,w.2.2.2.l.take n⟩) (jv _) SC v? (by simp only;rw[hd0];omega) (fun e he=>by have:=sx e (W? he);unfold Lo at this;exact this.2.2)
 rw[qG (n:=((jd (·.span) [] es.l).length:Int)-1) o? o?];refine .bind h fun u hu=> .ret ?_;change Led w es.l u;obtain⟨h1,h2,h3⟩:=hu;simp only[AP hp]at h2;refine⟨h1,h2, ?_, ?_⟩;have:=h3.len;exact tW;intro j s' oM;have hj:=(qF oM).1;have hlen:=h3.len;simp only[List.length_take]at hlen;obtain⟨s,hs⟩:=gl (l:=w.2.2.1) (k:=j) o?;have Z5:(w.2.2.1.take n)[j]? =some s:=by rw[Y? o?];exact hs
 obtain⟨s2,k1,k2⟩:=h3.cur j s Z5;exact tW
end Xr
end Go.Proofs.YtoflcafolmmaaaaGreat
