/-
  What is made lies as an instance that may be.
-/
import Derived.Test.YtnojdepmnnebnaaGreatQao
import Derived.Test.YtnojdepmnnebnaaGreatQam
open Go.IntKind renaming i64->q?
open Int renaming toNat_natCast->d?,add_assoc->X_
open List renaming length_cons->h?,mem_append->m?,length_append->t?,getElem?_append_left->r?,map_cons->s?,mem_singleton->a?,length_nil->e?,getElem?_cons_succ->i?,getElem?_append_right->J?,mem_cons->U?,mem_map->N?,nodup_append->j!,nodup_cons->d!,take_of_length_le->a!,map_append->Y!,getElem?_set->N!,filter_cons->T!,append_assoc->k_,getElem?_set_self->m_,take_sublist_take_left->C_,Sublist->q26
open Nat renaming strongRecOn->p?,zero_le->B!,eq_or_lt_of_le->q19
open Relation renaming TransGen->S?
set_option linter.unusedSimpArgs false
set_option linter.unusedVariables false
namespace Go.Proofs.YtnojdepmnnebnaaGreat
open Go Go.Gm
section
variable {env:Sl qw} {lead unit:qa}
theorem oZ.trans{up:Int}{r:List Pt}{ns:List qa}{m1 m2:Nat}{v w:Sl qw×qa×qa×List Pt×List Int×List qa}(h1:oZ env lead unit up r ns m1 v)(h2:oZ env lead unit up v.2.2.2.1 v.2.2.2.2.2 m2 w):oZ env lead unit up r ns (m1+m2) w:=by obtain⟨t1,a1,a2,a3⟩:=h1.ex;obtain⟨t2,b1,b2,b3⟩:=h2.ex;refine⟨h2.e1,h2.e2,h2.e3,⟨t1++t2,by rw[b1,a1,k_],a2.app ?_,v?⟩,h2.inv,Nat.le_trans h1.ns h2.ns⟩;rw[a1]at b2;simpa using b2
theorem oZ.len{up:Int}{r:List Pt}{ns:List qa}{m:Nat}{v:Sl qw×qa×qa×List Pt×List Int×List qa}(h:oZ env lead unit up r ns m v):v.2.2.2.1.length<=r.length+2*m:=by obtain⟨t,a1,_,a3⟩:=h.ex;rw[a1];simp;omega
theorem eX{up:Int}{r:List Pt}{ds:List Int}{ns:List qa}(hI:sB r ds ns){x:Pt}(hu:x.up=up)(hd:x.xZ=false)(he:x.end_=((r.length+1:Nat):Int))(hp:Eu ns.length x){m:Nat}(hm:1<=m):
  oZ env lead unit up r ns m (env,lead,unit,r++[x],ds,ns):=
 ⟨rfl,rfl,rfl,⟨_,rfl,tE.one _ hu he,v?⟩,hI.put _ hp hd,jx _⟩
theorem Ub(n:Int)(t:qa)(ht:t.length<=8192002)(up:Int)(r:List Pt)(ds:List Int)(ns:List qa)(hr:r.length<=50000000)(hI:sB r ds ns)(ms:List qa)(hms:ns.length<=ms.length/\ms.length<=ns.length+1)(hn: -(ms.length:Int)<=n/\n<0):
  qJ (yi ((1:Int),([]:qa),n,true,false,(0:Int),([]:qa),false,(⟨true,([]:List qV)⟩:Sl qV),(0:Int),(0:Int),false,(⟨true,([]:List qG)⟩:Sl qG),(⟨true,([]:List zt)⟩:Sl zt),false,false,(⟨true,([]:List qa)⟩:Sl qa),up,true,env,lead,unit,[(qD.mk (0:Int) t (0:Int) false false (zn.mk (qG.mk (0:Int) ([]:qa) false (⟨true,[]⟩:(Sl qV)) (0:Int) (0:Int) false (⟨true,[]⟩:(Sl qG))) (⟨true,[]⟩:(Sl zt)) false false) (⟨true,[]⟩:(Sl qa)) (⟨true,[]⟩:(Sl qD)))],r,ds,ms))
   (fun v=> ∃r' SF,v= .inl (r',SF)/\oZ env lead unit up r ns 1 (env,lead,unit,r',SF,ms)):=by
 have SR:=hI.dl;have hnl:=hI.nl;rw[yi.eq_1];rw[if_pos z?];refine .bind (tY n ds o?) fun v hv=>?_;refine .go (a:=[]) (by rw[wK.eq_1];simp) ?_;have hp: ∀e,Eu ms.length (qc.mk (1:Int) ([]:qa) n (!v) false false (zn.mk (qG.mk (0:Int) ([]:qa) false (⟨true,([]:List qV)⟩:Sl qV) (0:Int) (0:Int) false (⟨true,([]:List qG)⟩:Sl qG)) (⟨true,([]:List zt)⟩:Sl zt) false false) (⟨([]:List qa).isEmpty,[]⟩:(Sl qa)) up e):=fun e=>
  ⟨u?,z?,⟨hn.1,u?⟩,by have:=Hf;unfold dg Qc at this;simp only[this];omega,fun _=>rfl,fun _=>rfl,z?,z?,by simp[dJ]⟩
 have hq: ∀e,Eu ms.length (qc.mk (0:Int) t (0:Int) false false false (zn.mk (qG.mk (0:Int) ([]:qa) false (⟨true,([]:List qV)⟩:Sl qV) (0:Int) (0:Int) false (⟨true,([]:List qG)⟩:Sl qG)) (⟨true,([]:List zt)⟩:Sl zt) false false) (⟨true,([]:List qa)⟩:(Sl qa)) (r.length:Int) e):=fun e=>
  ⟨u?,z?,⟨u?,u?⟩,by have:=Hf;unfold dg Qc at this;simp only[this];omega,z?,fun _=>rfl,z?,u?,by simp[dJ]⟩
 refine .bind (mf _ env lead unit r ds ms o?) fun y hy=>?_;subst hy;refine .tI ?_ ?_<;>intro hT;have Zf:=hT;exact .ret ⟨_,_,rfl,⟨rfl,rfl,rfl,⟨_,rfl,tE.one _ rfl rfl,z?⟩,hI.putN hms _ (hp _) (by simp[Zf]),hms.1⟩⟩
 have Zf:=hT;refine .zx (by simp only[qg,zO,decide_eq_true_eq];omega) ?_;rw[if_pos rfl];refine .go (a:=(qD.mk (0:Int) t (0:Int) false false (zn.mk (qG.mk (0:Int) ([]:qa) false (⟨true,[]⟩:(Sl qV)) (0:Int) (0:Int) false (⟨true,[]⟩:(Sl qG))) (⟨true,[]⟩:(Sl zt)) false false) (⟨true,[]⟩:(Sl qa)) (⟨true,[]⟩:(Sl qD)))) rfl ?_;have hI2:=hI.defineN hms _ (hp ((r.length+1:Nat):Int)) (by simp[Zf]) (fun h=>by have:=hv.2 h;simp_all);refine .bind (mf _ env lead unit _ _ ms v?) fun y hy=>?_;simp only[t?,h?,e?,Nat.zero_add]at hy;subst hy;have hI3:=hI2.put _ (hq ((r.length+1+1:Nat):Int)) rfl;rw[k_]at hI3 |-;simp only[List.cons_append,List.nil_append]at hI3 |-;refine .go (ZX _ _ _) ?_;rw[d?,Kr];refine .ret ⟨_,_,rfl,⟨rfl,rfl,rfl,⟨_,rfl, ?_,z?⟩,hI3.Jj _ rfl,hms.1⟩⟩;have:=tE.cons (up:=up) (b:=r.length) (qc.mk (1:Int) ([]:qa) n (!v) false false (zn.mk (qG.mk (0:Int) ([]:qa) false (⟨true,([]:List qV)⟩:Sl qV) (0:Int) (0:Int) false (⟨true,([]:List qG)⟩:Sl qG)) (⟨true,([]:List zt)⟩:Sl zt) false false) (⟨([]:List qa).isEmpty,[]⟩:(Sl qa)) up ((r.length+1+1:Nat):Int))
  [qc.mk (0:Int) t (0:Int) false false false (zn.mk (qG.mk (0:Int) ([]:qa) false (⟨true,([]:List qV)⟩:Sl qV) (0:Int) (0:Int) false (⟨true,([]:List qG)⟩:Sl qG)) (⟨true,([]:List zt)⟩:Sl zt) false false) (⟨true,([]:List qa)⟩:(Sl qa)) (r.length:Int) ((r.length+1+1:Nat):Int)] [] rfl z? (fun h=>by simp[Zf]at h) (fun h=>absurd rfl h) (tE.one _ rfl rfl) (.nil _ _)
 have e2:(r.length:Int)+2=(r.length:Int)+1+1:=o?;simpa[e2]using this
theorem YH(hE:B7 env lead unit): ∀(m:Nat)(l:Sl qD),qO (l.l.map pU)<=m->m<=8192002->Ku l-> ∀(up:Int)(r:List Pt)(ds:List Int)(ns:List qa),r.length+2*qO (l.l.map pU)<=40000000->sB r ds ns->
  qJ (zT (l,up,env,lead,unit,r,ds,ns)) (oZ env lead unit up r ns (qO (l.l.map pU))):=by
 intro m;induction m using p? with
 |_ m ih=>
 intro l hl hm hS up r ds ns hr hI;have hlen:=xc ct l.l;have key: ∀(q:List qD)(k:Nat)(r:List Pt)(ds:List Int)(ns:List qa),l.l.drop k=q->r.length+2*qO (q.map pU)<=40000000->sB r ds ns->
   qJ (zi (l,up,(k:Int),env,lead,unit,r,ds,ns)) (oZ env lead unit up r ns (qO (q.map pU))):=by
  intro q;induction q with
  |nil=>
   intro k r ds ns hk hr hI;rw[zi.eq_1,if_neg (by simpa using yu hk)];exact .ret ⟨rfl,rfl,rfl,⟨[],z?,.nil _ _,z?⟩,hI,jx _⟩
  |cons x q ihq=>
   intro k r ds ns hk hr hI;obtain⟨a1,a2,a3,a4⟩:=wS hk;have hx:=xP (f:=pU) a4;have hxw:=nJ x;have FK:=ct x;simp only[s?,qO]at hr |-;have hSx:=hS x a4;have next: ∀v:Sl qw×qa×qa×List Pt×List Int×List qa,oZ env lead unit up r ns (pU x) v->
     qJ (zi (l,up,((k+1:Nat):Int),v.1,v.2.1,v.2.2.1,v.2.2.2.1,v.2.2.2.2.1,v.2.2.2.2.2)) (oZ env lead unit up r ns (pU x+qO (q.map pU))):=by
    intro v hv;have:=hv.len;rw[hv.e1,hv.e2,hv.e3];exact(ihq (k+1) _ _ _ a3 o? hv.inv).mono fun w hw=>hv.trans hw
   rw[zi.eq_1,if_pos (by simpa using a1),ll o? a1];refine .go a2 ?_;refine .tI ?_ ?_<;>intro hT
   ·refine .bind (XG x.text lead unit o? hE.lead hE.unit) fun t ht=>?_;refine .bind (mf _ env lead unit r ds ns o?) fun y hy=>?_;subst hy;refine next (env,lead,unit,_,ds,ns) ?_
    refine eX hI ?_ ?_ ?_ ?_ FK;rfl;rfl;rfl;exact⟨u?,z?,⟨u?,u?⟩,by have:=Hf;unfold dg Qc at this;simp only[this];omega,z?,fun _=>rfl,z?,ht,by simp[dJ]⟩
   have k0:=hT;refine .tI ?_ ?_<;>intro hT
   ·have k3:=hT;refine .bind (YA x.text env hE.len) fun v hv=>?_;have Nk:v.1.length<=1048576:=by
     rcases hv with ⟨p,p1,p2⟩|⟨p1,_⟩
     ·rw[p2];exact hE.val p p1
     rw[p1];simp
    refine .tI ?_ ?_<;>intro hT
    ·refine .bind (mf _ env lead unit r ds ns o?) fun y hy=>?_;subst hy;refine next (env,lead,unit,_,ds,ns) ?_
     refine eX hI ?_ ?_ ?_ ?_ FK;rfl;rfl;rfl;exact⟨u?,z?,⟨u?,u?⟩,u?,z?,fun _=>rfl,fun _=>Nk,u?,by simp[dJ]⟩
    refine .tI ?_ ?_<;>intro hT
    ·refine .bind (ih (qO (x.qz.l.map pU)) o? x.qz (jx _) o? (by cases hSx;assumption) up r ds ns o? hI) fun v hv=>?_;refine next v ⟨hv.e1,hv.e2,hv.e3, ?_,hv.inv,hv.ns⟩
     obtain⟨t,t1,t2,t3⟩:=hv.ex;exact⟨t,t1,t2,o?⟩
    refine .bind (Jw x.text) fun v _=>?_;refine .tI ?_ ?_<;>intro hT
    ·refine .bind (mf _ env lead unit r ds ns o?) fun y hy=>?_;subst hy;refine next (env,lead,unit,_,ds,ns) ?_
     refine eX hI ?_ ?_ ?_ ?_ FK;rfl;rfl;rfl;exact⟨u?,z?,⟨u?,u?⟩,u?,z?,fun _=>rfl,z?,z?,by simp[dJ]⟩
    have hnl:=hI.nl;refine .bind (Jz x.text r ds ns o?) fun w hw=>?_;refine .bind (Ub w.1 x.text o? up r ds ns o? hI w.2 ⟨hw.1,hw.2.1⟩ ⟨hw.2.2.1,hw.2.2.2⟩) fun y hy=>?_;obtain⟨r',SF,rfl,hy⟩:=hy;refine next (env,lead,unit,r',SF,w.2) ⟨hy.e1,hy.e2,hy.e3, ?_,hy.inv,hy.ns⟩
    obtain⟨t,t1,t2,t3⟩:=hy.ex;exact⟨t,t1,t2,o?⟩
   have k3:=hT;have hkd:0<=x.kind/\x.kind<=3:=by cases hSx;assumption
   refine .bind (Vb x o? hSx o? up hE r ds ns o? hI ?_) fun v hv=>?_
   ·intro up r ds ns hr hI;exact ih (qO (x.qz.l.map pU)) o? x.qz (jx _) o? (by cases hSx;assumption) up r ds ns o? hI
   exact next v hv
 rw[zT.eq_1];exact .bind (key l.l 0 r ds ns rfl hr hI) fun v hv=> .ret hv
theorem TH(hE:B7 env lead unit)(l:Sl qD)(hl:qO (l.l.map pU)<=8192002)(hS:Ku l)(up:Int):qJ (nX l up env lead unit) (oZ env lead unit up [] [] (qO (l.l.map pU))):=by
 have hlen:=xc ct l.l;have key: ∀(q:List qD)(k:Nat)(r:List Pt)(ds:List Int)(ns:List qa),l.l.drop k=q->r.length+2*qO (q.map pU)<=40000000->sB r ds ns->
   qJ (zB (l,up,(k:Int),env,lead,unit,r,ds,ns)) (oZ env lead unit up r ns (qO (q.map pU))):=by
  intro q;induction q with
  |nil=>
   intro k r ds ns hk hr hI;rw[zB.eq_1,if_neg (by simpa using yu hk)];exact .ret ⟨rfl,rfl,rfl,⟨[],z?,.nil _ _,z?⟩,hI,jx _⟩
  |cons x q ihq=>
   intro k r ds ns hk hr hI;obtain⟨a1,a2,a3,a4⟩:=wS hk;have hx:=xP (f:=pU) a4;have hxw:=nJ x;have FK:=ct x;simp only[s?,qO]at hr |-;have hSx:=hS x a4;have next: ∀v:Sl qw×qa×qa×List Pt×List Int×List qa,oZ env lead unit up r ns (pU x) v->
     qJ (zB (l,up,((k+1:Nat):Int),v.1,v.2.1,v.2.2.1,v.2.2.2.1,v.2.2.2.2.1,v.2.2.2.2.2)) (oZ env lead unit up r ns (pU x+qO (q.map pU))):=by
    intro v hv;have:=hv.len;rw[hv.e1,hv.e2,hv.e3];exact(ihq (k+1) _ _ _ a3 o? hv.inv).mono fun w hw=>hv.trans hw
   rw[zB.eq_1,if_pos (by simpa using a1),ll o? a1];refine .go a2 ?_;refine .tI ?_ ?_<;>intro hT
   ·refine .bind (XG x.text lead unit o? hE.lead hE.unit) fun t ht=>?_;refine .bind (mf _ env lead unit r ds ns o?) fun y hy=>?_;subst hy;refine next (env,lead,unit,_,ds,ns) ?_
    refine eX hI ?_ ?_ ?_ ?_ FK;rfl;rfl;rfl;exact⟨u?,z?,⟨u?,u?⟩,by have:=Hf;unfold dg Qc at this;simp only[this];omega,z?,fun _=>rfl,z?,ht,by simp[dJ]⟩
   have k0:=hT;refine .tI ?_ ?_<;>intro hT
   ·have k3:=hT;refine .bind (YA x.text env hE.len) fun v hv=>?_;have Nk:v.1.length<=1048576:=by
     rcases hv with ⟨p,p1,p2⟩|⟨p1,_⟩
     ·rw[p2];exact hE.val p p1
     rw[p1];simp
    refine .tI ?_ ?_<;>intro hT
    ·refine .bind (mf _ env lead unit r ds ns o?) fun y hy=>?_;subst hy;refine next (env,lead,unit,_,ds,ns) ?_
     refine eX hI ?_ ?_ ?_ ?_ FK;rfl;rfl;rfl;exact⟨u?,z?,⟨u?,u?⟩,u?,z?,fun _=>rfl,fun _=>Nk,u?,by simp[dJ]⟩
    refine .tI ?_ ?_<;>intro hT
    ·refine .bind (YH hE (qO (x.qz.l.map pU)) x.qz (jx _) o? (by cases hSx;assumption) up r ds ns o? hI) fun v hv=>?_;refine next v ⟨hv.e1,hv.e2,hv.e3, ?_,hv.inv,hv.ns⟩
     obtain⟨t,t1,t2,t3⟩:=hv.ex;exact⟨t,t1,t2,o?⟩
    refine .bind (Jw x.text) fun v _=>?_;refine .tI ?_ ?_<;>intro hT
    ·refine .bind (mf _ env lead unit r ds ns o?) fun y hy=>?_;subst hy;refine next (env,lead,unit,_,ds,ns) ?_
     refine eX hI ?_ ?_ ?_ ?_ FK;rfl;rfl;rfl;exact⟨u?,z?,⟨u?,u?⟩,u?,z?,fun _=>rfl,z?,z?,by simp[dJ]⟩
    have hnl:=hI.nl;refine .bind (Jz x.text r ds ns o?) fun w hw=>?_;refine .bind (Ub w.1 x.text o? up r ds ns o? hI w.2 ⟨hw.1,hw.2.1⟩ ⟨hw.2.2.1,hw.2.2.2⟩) fun y hy=>?_;obtain⟨r',SF,rfl,hy⟩:=hy;refine next (env,lead,unit,r',SF,w.2) ⟨hy.e1,hy.e2,hy.e3, ?_,hy.inv,hy.ns⟩
    obtain⟨t,t1,t2,t3⟩:=hy.ex;exact⟨t,t1,t2,o?⟩
   have k3:=hT;have hkd:0<=x.kind/\x.kind<=3:=by cases hSx;assumption
   refine .bind (Vb x o? hSx o? up hE r ds ns o? hI ?_) fun v hv=>?_
   ·intro up r ds ns hr hI;exact YH hE (qO (x.qz.l.map pU)) x.qz (jx _) o? (by cases hSx;assumption) up r ds ns o? hI
   exact next v hv
 unfold nX;exact .bind (key l.l 0 [] [] [] rfl v? ⟨z?,by simp[defs],by simp[defs],z?,z?⟩) fun v hv=> .ret hv
end
set_option maxHeartbeats 1000000
def core(x:Pt):Pt:={ x with n:=0,first:=false }
theorem tE.Zj{up:Int}{b:Nat}{l:List Pt}(h:tE up b l): ∀{l' :List Pt},l'.map core=l.map core->tE up b l' :=by induction h with|nil up b=>intro l' h;simp at h;subst h;exact .nil _ _|cons up b x qz rest hu he hd ho hk _ GK Ki=>intro l' h;rw[s?,Y!]at h;cases l' with|nil=>simp at h|cons y t=>(simp only[s?,List.cons.injEq]at h;obtain⟨h1,h2⟩:=h;obtain⟨k',r',rfl,e1,e2⟩:=List.map_eq_append_iff.1 h2;have e3:k'.length=qz.length:=by simpa using congrArg List.length e1);have e4:y.up=x.up:=(congrArg (·.up) h1:(core y).up=(core x).up);have e5:y.end_=x.end_:=(congrArg (·.end_) h1:(core y).end_=(core x).end_);have e6:y.xZ=x.xZ:=(congrArg (·.xZ) h1:(core y).xZ=(core x).xZ);have e7:y.opts=x.opts:=(congrArg (·.opts) h1:(core y).opts=(core x).opts);refine .cons up b y k' r' (e4.trans hu) (by rw[e5,he,e3]) (fun h=>?_) (fun h=>?_) (GK e1) (by rw[e3];exact Ki e2);exact tW;exact tW
theorem tE.end_{up:Int}{b:Nat}{l:List Pt}(h:tE up b l): ∀(i:Nat)(x:Pt),l[i]? =some x->((b+i:Nat):Int)<x.end_/\x.end_<=((b+l.length:Nat):Int):=by induction h with|nil up b=>intro i x h;simp at h|cons up b x qz rest hu he hd ho hk _ GK Ki=>intro i y h;exact tW
structure Bc (x:Pt):Prop where
 kind:0<=x.kind/\x.kind<=2
 other:x.kind≠1->x.xZ=false/\x.opts.l=[]
 qR:vK x.qR<=1000000000
 dt:x.xZ=true->x.qL=false
 od:x.xZ=false->x.opts.l=[]
 tt:x.qL=true->x.text.length<=1048576
 tl:x.text.length<=17592186044416
 ol:(∀ o∈x.opts.l,o.length<=17592186044416)/\QX x.opts=0/\x.opts.l.length<=8192002
structure Good (P:List Pt):Prop where
 seg:tE (-1) 0 P
 ok: ∀x∈P,Bc x
 n: ∀x∈P,0<=x.n/\x.n<=100000000
 un:(defs P).Nodup
 len:P.length<=40000000
theorem Bc.Zj{x y:Pt}(h:Bc x)(e:core y=core x):Bc y:=by have e1:y.kind=x.kind:=(congrArg (·.kind) e:(core y).kind=(core x).kind);have e2:y.xZ=x.xZ:=(congrArg (·.xZ) e:(core y).xZ=(core x).xZ);have e3:y.opts=x.opts:=(congrArg (·.opts) e:(core y).opts=(core x).opts);have e4:y.qR=x.qR:=(congrArg (·.qR) e:(core y).qR=(core x).qR);have e5:y.qL=x.qL:=(congrArg (·.qL) e:(core y).qL=(core x).qL);have e6:y.text=x.text:=(congrArg (·.text) e:(core y).text=(core x).text);exact⟨e1 ▸ h.kind,by rw[e1,e2,e3];exact h.other,e4 ▸ h.qR,by rw[e2,e5];exact h.dt,by rw[e2,e3];exact h.od,by rw[e5,e6];exact h.tt,e6 ▸ h.tl,by rw[e3];exact h.ol⟩
theorem q09{l l' :List Pt}(h:l'.map core=l.map core){y:Pt}(hy:y∈l'): ∃x∈l,core y=core x:=by
 have:core y∈l.map core:=by rw[<- h];exact N?.2 ⟨y,hy,rfl⟩
 exact tW
section
variable {env:Sl qw} {lead unit:qa}
theorem q0t(r:List Pt)(ds:List Int)(ns:List qa)(hl:r.length<=40000000)(hn: ∀x∈r,x.n<=9999): ∀(q:List Pt)(k:Nat)(m:Int),r.drop k=q->0<=m->m<=9999->(∀ i x,i<k->r[i]? =some x->x.n<=m)->
  qJ (jC (m,(k:Int),env,lead,unit,r,ds,ns)) (fun v=>0<=v/\v<=9999/\ ∀x∈r,x.n<=v):=by intro q;induction q with|nil=>intro k m hk h0 h1 hm;rw[jC.eq_1,if_neg (by simpa using yu hk)];refine .ret ⟨h0,h1,fun x hx=>?_⟩;obtain⟨i,hi⟩:=kb hx;have:=vI hk;exact hm i x (by have:=(qF hi).1;omega) hi|cons x q ih=>intro k m hk h0 h1 hm;obtain⟨a1,a2,a3,a4⟩:=wS hk;obtain⟨b1,_,_⟩:=drop_cons hk;have hx:=hn x a4;rw[jC.eq_1,if_pos (by simpa using a1),ll o? a1];refine .go a2 ?_;refine ih (k+1) _ a3 (by split<;>omega) (by split<;>omega) ?_;intro i y hi hy;by_cases h:i=k;exact tW;have:=hm i y o? hy;split<;>omega
def G7(m n:Int):Int:=if n<0 then m-n else n
def Xk(m:Int)(x:Pt):Pt:={ x with n:=G7 m x.n }
theorem ren_tot(ds:List Int)(ns:List qa)(m:Int)(h0:0<=m)(h1:m<=9999): ∀(B A:List Pt),(A++B).length<=40000000->(∀ x∈B,-40000000<=x.n)->
  qJ (ja (m,(A.length:Int),env,lead,unit,A++B,ds,ns)) (fun v=>v=A++B.map (Xk m)):=by intro B;induction B with|nil=>intro A hl hn;rw[ja.eq_1,if_neg z?];exact .ret rfl|cons x B ih=>intro A hl hn;have hx:=hn x z?;rw[ja.eq_1,if_pos v?];refine .go (ZX _ _ _) ?_;simp only[t?,h?]at hl;rw[wr (n:=(A.length:Int)+1) o? o?];have e:A++(x::B).map (Xk m)=(A++[Xk m x])++B.map (Xk m):=z?;have e2:((A.length:Int)+1)=((A++[Xk m x]).length:Int):=z?;rw[e];refine .tI ?_ ?_<;>intro hT;(rw[d?,Kr,wr (n:=m-x.n) o? o?,e2];have e3:A++(qc.mk x.kind x.text (m-x.n) x.xZ x.first x.qL x.qR x.opts x.up x.end_)::B=(A++[Xk m x])++B:=by simp[Xk,G7,hT]);rw[e3];exact ih _ v? fun y hy=>hn y (by simp[hy]);(rw[e2];have e3:A++x::B=(A++[Xk m x])++B:=by have: ¬x.n<0:=o?;simp[Xk,G7,this]);rw[e3];exact ih _ v? fun y hy=>hn y (by simp[hy])
theorem Z7(n:Int)(r:List Pt)(ds:List Int)(ns:List qa)(hl:r.length<=40000000):
  qJ (w6 n env lead unit r ds ns) (fun v=>(v= -1/\ ∀x∈r,x.kind=1->x.xZ=true->x.n≠n)\/ ∃(d:Nat)(x:Pt),v=d/\r[d]? =some x/\x.kind=1/\x.xZ=true/\x.n=n):=by
 have key: ∀(q:List Pt)(k:Nat),r.drop k=q->qJ (xj (n,(k:Int),env,lead,unit,r,ds,ns)) (fun v=>match v with| .inl v=> ∃(d:Nat)(x:Pt),v=d/\r[d]? =some x/\x.kind=1/\x.xZ=true/\x.n=n| .inr _=> ∀x∈q,x.kind=1->x.xZ=true->x.n≠n):=by intro q;induction q with|nil=>intro k hk;rw[xj.eq_1,if_neg (by simpa using yu hk)];exact .ret z?|cons x q ih=>(intro k hk;obtain⟨a1,a2,a3,a4⟩:=wS hk;obtain⟨b1,_,_⟩:=drop_cons hk;have next: ¬(x.kind=1/\x.xZ=true/\x.n=n)->qJ (xj (n,((k+1:Nat):Int),env,lead,unit,r,ds,ns)) (fun v=>match v with| .inl v=> ∃(d:Nat)(x:Pt),v=d/\r[d]? =some x/\x.kind=1/\x.xZ=true/\x.n=n| .inr _=> ∀y∈x::q,y.kind=1->y.xZ=true->y.n≠n):=by intro h;exact tW);rw[xj.eq_1,if_pos (by simpa using a1),ll o? a1];exact tW
 unfold w6;refine .bind (key r 0 rfl) fun v hv=>?_;rcases v with v|v;exact .ret (.inr hv);exact .ret (.inl ⟨rfl,hv⟩)
theorem Fp(ds:List Int)(ns:List qa): ∀(B A:List Pt)(zU:List Int),(A++B).length<=40000000->zU.length<=A.length->
  qJ (zp ((A.length:Int),env,lead,unit,A++B,ds,ns,zU)) (fun v=>v.1.map core=(A++B).map core/\v.1.map (·.n)=(A++B).map (·.n)):=by intro B;induction B with|nil=>intro A zU hl ht;rw[zp.eq_1,if_neg z?];exact .ret ⟨rfl,rfl⟩|cons x B ih=>(intro A zU hl ht;rw[zp.eq_1,if_pos v?];refine .go (ZX _ _ _) ?_;have hl' :=hl;simp only[t?,h?]at hl;rw[wr (n:=(A.length:Int)+1) o? o?];have e1: ∀y:Pt,((A.length:Int)+1)=((A++[y]).length:Int):=fun y=>z?;have e2: ∀y:Pt,A++y::B=(A++[y])++B:=fun y=>z?;have skip: ∀t:List Int,t.length<=A.length+1->qJ (zp ((A.length:Int)+1,env,lead,unit,A++x::B,ds,ns,t)) (fun v=>v.1.map core=(A++x::B).map core/\v.1.map (·.n)=(A++x::B).map (·.n)):=by intro t h;rw[e1 x,e2 x];exact ih (A++[x]) t v? (by simpa using h));(have mark:qJ (zp ((A.length:Int)+1,env,lead,unit,((A++x::B).set (A.length:Int).toNat (qc.mk x.kind x.text x.n x.xZ true x.qL x.qR x.opts x.up x.end_)),ds,ns,zU++[x.n])) (fun v=>v.1.map core=(A++x::B).map core/\v.1.map (·.n)=(A++x::B).map (·.n)):=by rw[d?,Kr,e1 x,show(A++[x]).length=(A++[qc.mk x.kind x.text x.n x.xZ true x.qL x.qR x.opts x.up x.end_]).length by simp,e2];refine(ih _ _ v? v?).mono fun v hv=>⟨hv.1.trans ?_,hv.2.trans ?_⟩;simp[core];simp);(have gY:qg (zU.length+1) 8=true:=by simp only[qg,zO,decide_eq_true_eq];omega);refine .tI ?_ ?_<;>intro hT;refine .tI ?_ ?_<;>intro hT;exact .zx gY mark;refine .tI ?_ ?_<;>intro hT;refine .bind (Z7 x.n _ ds ns hl') fun v _=>?_;refine .tI ?_ ?_<;>intro hT;refine .bind (tY x.n zU o?) fun w _=>?_;refine .tI ?_ ?_<;>intro hT;exact .zx gY mark;exact skip zU o?;exact skip zU o?;exact skip zU o?;exact skip zU o?
theorem ren_inj{m a b:Int}(ha:a<=m)(hb:b<=m)(h0:0<=m)(h:G7 m a=G7 m b):a=b:=by unfold G7 at h;split at h<;>split at h<;>omega
theorem Yq: ∀{l l' :List Pt},l'.map core=l.map core->l'.map (·.n)=l.map (·.n)->defs l' =defs l
 |[],[],_,_=>rfl
 |[],_::_,h,_=>by simp at h
 |_::_,[],h,_=>by simp at h
 |x::l,y::l',h1,h2=>by simp only[s?,List.cons.injEq]at h1 h2;have e:y.xZ=x.xZ:=(congrArg (·.xZ) h1.1:(core y).xZ=(core x).xZ);have ih:=Yq h1.2 h2.2;unfold defs at ih |-;simp only[T!,e];cases x.xZ;simpa using ih;simp[h2.1,ih]
theorem OS(m:Int)(l:List Pt):defs (l.map (Xk m))=(defs l).map (G7 m):=by induction l with|nil=>rfl|cons x l ih=>unfold defs at ih |-;simp only[s?,T!,Xk];exact tW
theorem U2{α β:Type}{f:α->β}: ∀{l:List α},l.Nodup->(∀ a∈l,∀ b∈l,f a=f b->a=b)->(l.map f).Nodup
 |[],_,_=>z?
 |x::l,h,hf=>by rw[d!]at h;rw[s?,d!];refine⟨fun hm=>?_,U2 h.2 fun a ha b hb=>hf a (by simp[ha]) b (by simp[hb])⟩;obtain⟨y,hy,e⟩:=N?.1 hm;have:=hf x z? y (by simp[hy]) e.symm;exact h.1 (this ▸ hy)
theorem HD(r:List Pt)(ds:List Int)(ns:List qa)(hs:tE (-1) 0 r)(hI:sB r ds ns)(hl:r.length<=40000000):qJ (gj env lead unit r ds ns) Good:=by
 have hnl:=hI.nl;unfold gj;refine .bind (q0t r ds ns hl (fun x hx=>(hI.ok x hx).n.2) r 0 0 rfl o? o? o?) fun m hm=>?_;have h2:=ren_tot (env:=env) (lead:=lead) (unit:=unit) ds ns m hm.1 hm.2.1 r [] (by simpa using hl) (fun x hx=>by have:=(hI.ok x hx).n;omega);simp only[List.nil_append,List.length_nil]at h2;refine .bind h2 fun p hp=>?_;subst hp;have h4:=Fp (env:=env) (lead:=lead) (unit:=unit) ds ns (r.map (Xk m)) [] [] (by simpa using hl) z?;simp only[List.nil_append,List.length_nil]at h4;refine .bind h4 fun v hv=> .ret ?_;have hc:v.1.map core=r.map core:=by rw[hv.1,List.map_map];exact List.map_congr_left fun x _=>rfl
 have hd:defs v.1=(defs r).map (G7 m):=by rw[Yq hv.1 hv.2,OS]
 refine⟨hs.Zj hc,fun y hy=>?_,fun y hy=>?_, ?_, ?_⟩;obtain⟨x,hx,e⟩:=q09 hc hy;have h:=hI.ok x hx;exact Bc.Zj ⟨h.kind,fun k=>(h.other k).2,h.qR,h.dt,h.od,h.tt,h.tl,h.ol⟩ e;(have:y.n∈(r.map (Xk m)).map (·.n):=by rw[<- hv.2];exact List.mem_map.2 ⟨y,hy,rfl⟩);simp only[List.map_map,List.mem_map,Function.comp]at this;obtain⟨x,hx,e⟩:=this;have h:=(hI.ok x hx).n;rw[<- e];simp only[Xk,G7];split<;>omega;(rw[hd];have hle: ∀a∈defs r,a<=m:=by intro a ha;obtain⟨x,hx,rfl⟩:=List.mem_map.1 ha;exact hm.2.2 x (List.mem_filter.1 hx).1);exact U2 hI.un fun a ha b hb=>ren_inj (hle a ha) (hle b hb) hm.1;have:=congrArg List.length hc;simp only[List.length_map]at this;omega
end
def Holds(P:List Pt)(n m:Int):Prop:= ∃(d e:Nat)(x y:Pt),P[d]? =some x/\x.kind=1/\x.xZ=true/\x.n=n/\d<e/\(e:Int)<x.end_/\P[e]? =some y/\y.kind=1/\y.n=m
def UI(P:List Pt):Prop:= ∀n,¬ S? (Holds P) n n
theorem J3: ∀{a b:List Int},a.Nodup->(∀ x∈a,x∈b)->a.length<=b.length
 |[],b,_,_=>B! _
 |x::a,b,h,hb=>by (rw[d!]at h;have hx:=hb x z?;have h1: ∀y∈a,y∈b.erase x:=fun y hy=>by have jz:y≠x:=fun e=>h.1 (e ▸ hy);exact(List.mem_erase_of_ne jz).2 (hb y (by simp[hy])));have h2:=J3 h.2 h1;have h3:=List.length_erase_of_mem hx;have h4:=List.length_pos_of_mem hx;simp only[h?];omega
section
variable {env:Sl qw} {lead unit:qa}
theorem LV(P:List Pt)(ds:List Int)(ns:List qa)(hl:P.length<=40000000)(d:Nat)(x:Pt)(hd:P[d]? =some x)(he:x.end_<=P.length): ∀(m i:Nat)(l:List Int),m=(x.end_-i).toNat->l.length<=100000000-m->
  qJ (kH ((d:Int),(i:Int),env,lead,unit,P,ds,ns,l)) (fun v=>(∀ n,n∈v↔n∈l\/ ∃(j:Nat)(y:Pt),i<=j/\(j:Int)<x.end_/\P[j]? =some y/\y.kind=1/\y.n=n)/\(l.Nodup->v.Nodup)):=by intro m;induction m using p? with|_ m ih=>(intro i l hm FA;have SR:=(qF hd).1;have hgd:qh P (d:Int)=some x:=by rw[xd SR];simpa[wu SR]using hd);rw[kH.eq_1];refine .go hgd ?_;have:= @wr;have:= @tY;exact tW
theorem in2_L0(P:List Pt)(ds:List Int)(ns:List qa)(hl:P.length<=40000000)(d:Nat)(x:Pt)(hd:P[d]? =some x)(he:x.end_<=P.length): ∀(m i:Nat)(l:List Int),m=(x.end_-i).toNat->l.length<=100000000-m->
  qJ (jd ((d:Int),(i:Int),env,lead,unit,l,P,ds,ns)) (fun v=>(∀ n,n∈v↔n∈l\/ ∃(j:Nat)(y:Pt),i<=j/\(j:Int)<x.end_/\P[j]? =some y/\y.kind=1/\y.n=n)/\(l.Nodup->v.Nodup)/\ ∃t,v=l++t):=by
 intro m;induction m using p? with
  |_ m ih=>
   (intro i l hm FA;have SR:=(qF hd).1;have hgd:qh P (d:Int)=some x:=by rw[xd SR];simpa[wu SR]using hd);rw[jd.eq_1];refine .go hgd ?_;refine .tI ?_ ?_<;>intro hT
   ·have hi:=hT;refine .bind .get fun y hy=>?_;have hyi:P[i]? =some y:=by simpa using hy.1
    rw[wr (n:=(i:Int)+1) o? o?,show((i:Int)+1)=((i+1:Nat):Int) by omega];have next: ∀l',l'.length<=l.length+1->(∀ n,n∈l' ↔n∈l\/(y.kind=1/\y.n=n))->(l.Nodup->l'.Nodup)->(∃ t,l' =l++t)->
      qJ (jd ((d:Int),((i+1:Nat):Int),env,lead,unit,l',P,ds,ns)) (fun v=>(∀ n,n∈v↔n∈l\/ ∃(j:Nat)(y:Pt),i<=j/\(j:Int)<x.end_/\P[j]? =some y/\y.kind=1/\y.n=n)/\(l.Nodup->v.Nodup)/\ ∃t,v=l++t):=by
     intro l' h1 h2 h3 h4;refine(ih _ o? (i+1) l' rfl o?).mono fun v hv=>⟨fun n=>?_,fun h=>hv.2.1 (h3 h), ?_⟩
     ·rw[hv.1 n,h2 n];constructor
      ·rintro((h|h)|⟨j,z,j1,j2,j3,j4,j5⟩)
       ·exact .inl h
       ·exact .inr ⟨i,y,jx _,hi,hyi,h.1,h.2⟩
       exact .inr ⟨j,z,o?,j2,j3,j4,j5⟩
      rintro(h|⟨j,z,j1,j2,j3,j4,j5⟩)
      ·exact .inl (.inl h)
      rcases q19 j1 with rfl|j1
      ·rw[hyi]at j3;cases j3;exact .inl (.inr ⟨j4,j5⟩)
      exact .inr ⟨j,z,j1,j2,j3,j4,j5⟩
     obtain⟨t1,rfl⟩:=h4;obtain⟨t2,h⟩:=hv.2.2;exact⟨t1++t2,by rw[h,k_]⟩
    refine .tI ?_ ?_<;>intro hT;{have hk:=hT;refine .bind (tY y.n l o?) fun w hw=>?_;refine .tI ?_ ?_<;>intro hT;{(have Wn:=hT;have hnot:y.n∉l:=fun h=>by have:=hw.2 h;rw[Wn]at this;cases this);refine .zx (by simp only[qg,zO,decide_eq_true_eq];omega) (next _ z? (fun n=>?_) (fun h=>?_) ⟨_,rfl⟩);simp only[m?,a?,hk,true_and];exact or_congr_right eq_comm;refine j!.2 ⟨h,z?,fun a ha b hb=>?_⟩;simp only[a?]at hb;subst hb;exact fun e=>hnot (e ▸ ha)};(have Wn:=hw.1 hT;refine next l o? (fun n=>?_) id ⟨[],z?⟩);constructor;exact .inl;rintro(h|⟨_,rfl⟩);exact h;exact Wn};have hk:=hT;exact next l o? (fun n=>⟨.inl,fun h=>h.elim id fun h=>absurd h.1 hk⟩) id ⟨[],z?⟩
   have hi:=hT;refine .ret ⟨fun n=>⟨.inl,fun h=>h.elim id ?_⟩,id,[],z?⟩;rintro⟨j,z,j1,j2,_⟩;omega
theorem Kc: ∀{P:List Pt}{i j:Nat}{x y:Pt},(defs P).Nodup->P[i]? =some x->P[j]? =some y->x.xZ=true->y.xZ=true->x.n=y.n->i=j
 |[],i,j,x,y,_,h1,_,_,_,_=>by simp at h1
 |z::P,i,j,x,y,hn,h1,h2,d1,d2,e=>by
  have tail:(defs P).Nodup:=by unfold defs at hn |-;exact tW
  have mem: ∀{k:Nat}{w:Pt},P[k]? =some w->w.xZ=true->w.n∈defs P:=fun h hd=>
   N?.2 ⟨_,List.mem_filter.2 ⟨z6 h,hd⟩,rfl⟩
  (have head:z.xZ=true->z.n∉defs P:=by intro hz;unfold defs at hn |-;exact tW);cases i with|zero=>exact tW|succ i=>cases j with|zero=>exact tW|succ j=>simp only[i?]at h1 h2;rw[Kc tail h1 h2 d1 d2 e]
theorem Good.end_{P:List Pt}(hP:Good P){i:Nat}{x:Pt}(h:P[i]? =some x):(i:Int)<x.end_/\x.end_<=P.length:=by have:=hP.seg.end_ i x h;simpa using this
theorem BR(P:List Pt)(ds:List Int)(ns:List qa)(hP:Good P)(i:Int): ∀(m k:Nat)(l:List Int),m=P.length+1-k->l.Nodup->(∀ n∈l,n∈P.map (·.n))->(∀(j:Nat)(n:Int),j<k->l[j]? =some n-> ∀n',Holds P n n' ->n' ∈l)->k<=l.length->
  qJ (kB (i,(k:Int),env,lead,unit,P,ds,ns,l)) (fun v=>(∀ n∈l,n∈v)/\(∀ n∈v,∀ n',Holds P n n' ->n' ∈v)/\v.length<=P.length):=by have hl:=hP.len;intro m;induction m using p? with|_ m ih=>(intro k l hm EI Ze Xw pf;have FA:l.length<=P.length:=by simpa using J3 EI Ze);rw[kB.eq_1];refine .tI ?_ ?_<;>intro hT;(have hk:=hT;refine .bind .get fun n hn=>?_;have hnk:l[k]? =some n:=by simpa using hn.1);rw[wr (n:=(k:Int)+1) o? o?,show((k:Int)+1)=((k+1:Nat):Int) by omega];refine .bind (Z7 n P ds ns hl) fun v hv=>?_;refine .tI ?_ ?_<;>intro hT;have Hr:=hT;rcases hv with ⟨rfl,_⟩|⟨d,x,rfl,hd,x1,x2,x3⟩;omega;(have he:=hP.end_ hd;have h2:=in2_L0 (env:=env) (lead:=lead) (unit:=unit) P ds ns hl d x hd he.2 _ (d+1) l rfl o?;have h2' :qJ (nW (d:Int) env lead unit l P ds ns) (fun v=>(∀ n,n∈v↔n∈l\/ ∃(j:Nat)(y:Pt),d+1<=j/\(j:Int)<x.end_/\P[j]? =some y/\y.kind=1/\y.n=n)/\(l.Nodup->v.Nodup)/\ ∃t,v=l++t):=by unfold nW;rw[wr (n:=(d:Int)+1) (by have:=he.1;omega) o?,show((d:Int)+1)=((d+1:Nat):Int) by omega];exact .bind h2 fun v hv=> .ret hv);(refine .bind h2' fun w hw=>?_;obtain⟨t,ht⟩:=hw.2.2;have hwn:=hw.2.1 EI;have hsub2: ∀n∈w,n∈P.map (·.n):=by intro q hq;rcases(hw.1 q).1 hq with h|⟨j,y,_,_,j3,_,j5⟩;exact Ze q h;exact N?.2 ⟨y,z6 j3,j5⟩);have SY: ∀q∈l,q∈w:=fun q hq=>(hw.1 q).2 (.inl hq);refine(ih _ o? (k+1) w rfl hwn hsub2 ?_ (by rw[ht];simp;omega)).mono fun v hv=>⟨fun q hq=>hv.1 q (SY q hq),hv.2⟩;intro j q hj hq n' FB;by_cases Vq:j=k;(subst Vq;have hqn:q=n:=by rw[ht,r? o?,hnk]at hq;exact(Option.some.inj hq).symm);subst hqn;obtain⟨d',e,x',y,p1,p2,p3,p4,p5,p6,p7,p8,p9⟩:=FB;have hdd:d' =d:=Kc hP.un p1 hd p3 x2 (p4.trans x3.symm);subst hdd;rw[hd]at p1;cases p1;exact(hw.1 n').2 (.inr ⟨e,y,o?,p6,p7,p8,p9⟩);(have EJ:l[j]? =some q:=by rw[ht,r? o?]at hq;exact hq);exact SY n' (Xw j q o? EJ n' FB);have Hr:=hT;refine ih _ o? (k+1) l rfl EI Ze ?_ o?;intro j q hj hq n' FB;by_cases Vq:j=k;subst Vq;rw[hnk]at hq;cases hq;obtain⟨d',e,x',y,p1,p2,p3,p4,_⟩:=FB;rcases hv with ⟨_,hv⟩|⟨d,x,rfl,_⟩;exact absurd p4 (hv x' (z6 p1) p2 p3);omega;exact Xw j q o? hq n' FB;refine .ret ⟨fun _ h=>h,fun n hn n' FB=>?_,FA⟩;obtain⟨j,hj⟩:=kb hn;exact Xw j n (by have:=(qF hj).1;omega) hj n' FB
theorem TQ(P:List Pt)(ds:List Int)(ns:List qa)(hP:Good P):qJ (nY env lead unit P ds ns) (fun v=>v=false->UI P):=by
 have hl:=hP.len;have key: ∀(q:List Pt)(k:Nat),P.drop k=q->qJ (xG ((k:Int),env,lead,unit,P,ds,ns)) (fun v=>match v with| .inl v=>v=true| .inr _=> ∀(d:Nat)(x:Pt),k<=d->P[d]? =some x->x.kind=1->x.xZ=true-> ¬S? (Holds P) x.n x.n):=by intro q;induction q with|nil=>intro k hk;rw[xG.eq_1,if_neg (by simpa using yu hk)];refine .ret fun d x hd h=>?_;have:=vI hk;have:=(qF h).1;omega|cons x q ih=>(intro k hk;obtain⟨a1,a2,a3,a4⟩:=wS hk;obtain⟨b1,_,_⟩:=drop_cons hk;have next:(x.kind=1->x.xZ=true-> ¬S? (Holds P) x.n x.n)->qJ (xG (((k+1:Nat):Int),env,lead,unit,P,ds,ns)) (fun v=>match v with| .inl v=>v=true| .inr _=> ∀(d:Nat)(x:Pt),k<=d->P[d]? =some x->x.kind=1->x.xZ=true-> ¬S? (Holds P) x.n x.n):=by intro h;refine(ih (k+1) a3).mono fun v hv=>?_;rcases v with v|v;exact hv;intro d y hd hy h1 h2;rcases q19 hd with rfl|hd;rw[b1]at hy;cases hy;exact h h1 h2;exact hv d y hd hy h1 h2);rw[xG.eq_1,if_pos (by simpa using a1),ll o? a1];refine .go a2 ?_;refine .tI ?_ ?_<;>intro hT;{have h0:=hT;exact next fun h=>absurd h h0};have h1:=hT;refine .tI ?_ ?_<;>intro hT;{have h0:=hT;exact next fun _ h=>by rw[h0]at h;cases h};(have h2:=hT;have he:=hP.end_ b1;have dK:qJ (tq (k:Int) env lead unit P ds ns) (fun v=>(∀ n,n∈v↔n∈([]:List Int)\/ ∃(j:Nat)(y:Pt),k+1<=j/\(j:Int)<x.end_/\P[j]? =some y/\y.kind=1/\y.n=n)/\(([]:List Int).Nodup->v.Nodup)):=by unfold tq;rw[wr (n:=(k:Int)+1) o? o?,show((k:Int)+1)=((k+1:Nat):Int) by omega];exact .bind (LV P ds ns hl k x b1 he.2 _ (k+1) [] rfl z?) fun v hv=> .ret hv);(refine .bind dK fun v hv=>?_;have hvn:=hv.2 z?;have EL: ∀n∈v,n∈P.map (·.n):=by intro q hq;rcases(hv.1 q).1 hq with h|⟨j,y,_,_,j3,_,j5⟩;cases h;exact N?.2 ⟨y,z6 j3,j5⟩);(have hc:=BR (env:=env) (lead:=lead) (unit:=unit) P ds ns hP (k:Int) _ 0 v rfl hvn EL (fun j n hj=>o?) (B! _);refine .bind hc fun w hw=>?_;have Lr:w.length<=1099511627776:=by have:=hw.2.2;omega);refine .bind (tY x.n w Lr) fun y hy=>?_;refine .tI ?_ ?_<;>intro hT;exact .ret rfl;(have hy1:=hT;refine next fun _ _ hloop=>?_);(have all: ∀m,S? (Holds P) x.n m->m∈w:=by intro m hm;induction hm with|single h=>obtain⟨d',e,x',z,p1,p2,p3,p4,p5,p6,p7,p8,p9⟩:=h;have hdd:d' =k:=Kc hP.un p1 b1 p3 h2 p4;subst hdd;rw[b1]at p1;cases p1;exact hw.1 _ ((hv.1 _).2 (.inr ⟨e,z,o?,p6,p7,p8,p9⟩))|tail _ h ih=>exact hw.2.1 _ ih _ h);have:=hy.2 (all _ hloop);rw[hy1]at this;cases this
 unfold nY;refine .bind (key P 0 rfl) fun v hv=>?_;rcases v with v|v;(exact .ret fun h=>by rw[hv]at h;cases h);refine .ret fun _ n hn=>?_;have: ∀m,S? (Holds P) n m-> ∃(d:Nat)(x:Pt),P[d]? =some x/\x.kind=1/\x.xZ=true/\x.n=n:=by intro m hm;induction hm with|single h=>obtain⟨d',e,x',z,p1,p2,p3,p4,_⟩:=h;exact⟨d',x',p1,p2,p3,p4⟩|tail _ _ ih=>exact ih
 obtain⟨d,x,h1,h2,h3,rfl⟩:=this n hn;exact hv d x (B! _) h1 h2 h3 hn
end
inductive nM (P:List Pt):Int->Nat->Nat->Prop
 |nil (up:Int) (i:Nat):nM P up i i
 |cons (up:Int) (i e hi:Nat) (x:Pt) (hx:P[i]? =some x) (hu:x.up=up) (he:x.end_=(e:Int)) (xJ:i<e) (hle:e<=hi) (hk:nM P i (i+1) e) (hd:x.xZ=false->e=i+1) (ho:x.opts.l≠[]->e=i+1) (hr:nM P up e hi):nM P up i hi
theorem nM.le{P:List Pt}{up:Int}{i j:Nat}(h:nM P up i j):i<=j:=by cases h<;>omega
theorem tE.chain{up:Int}{b:Nat}{l:List Pt}(h:tE up b l): ∀(pre post:List Pt),pre.length=b->nM (pre++l++post) up b (b+l.length):=by induction h with|nil up b=>intro pre post _;exact .nil _ _|cons up b x qz rest hu he hd ho hk _ GK Ki=>intro pre post VW;have e1:b+(x::(qz++rest)).length=b+1+qz.length+rest.length:=v?;have h1:=GK (pre++[x]) (rest++post) (by simp[VW]);have h2:=Ki (pre++[x]++qz) post (by simp[VW];omega);have e2:pre++[x]++qz++(rest++post)=pre++x::(qz++rest)++post:=z?;have e3:pre++[x]++qz++rest++post=pre++x::(qz++rest)++post:=z?;rw[e2]at h1;rw[e3]at h2;rw[e1];refine .cons up b (b+1+qz.length) _ x ?_ hu he o? o? h1 (fun h=>?_) (fun h=>?_) h2;exact tW;rw[hd h];rfl;rw[ho h];rfl
theorem tE.inner{up:Int}{b:Nat}{l:List Pt}(h:tE up b l): ∀(pre post:List Pt),pre.length=b-> ∀(i:Nat)(x:Pt),l[i]? =some x-> ∃e:Nat,x.end_=(e:Int)/\nM (pre++l++post) ((b+i:Nat):Int) (b+i+1) e/\(x.xZ=false->e=b+i+1)/\(x.opts.l≠[]->e=b+i+1):=by induction h with|nil up b=>intro pre post _ i x h;simp at h|cons up b x qz rest hu he hd ho hk _ GK Ki=>intro pre post VW i y hy;have e2:pre++[x]++qz++(rest++post)=pre++x::(qz++rest)++post:=z?;have e3:pre++[x]++qz++rest++post=pre++x::(qz++rest)++post:=z?;cases i with|zero=>simp only[List.getElem?_cons_zero,ki]at hy;subst hy;refine⟨b+1+qz.length,he, ?_,fun h=>?_,fun h=>?_⟩;have h1:=hk.chain (pre++[x]) (rest++post) (by simp[VW]);rw[e2]at h1;exact h1;rw[hd h];rfl;rw[ho h];rfl|succ i=>simp only[i?]at hy;by_cases hi:i<qz.length;rw[r? hi]at hy;obtain⟨e,f1,f2,f3,f4⟩:=GK (pre++[x]) (rest++post) (by simp[VW]) i y hy;rw[e2]at f2;have e4:b+1+i=b+(i+1):=o?;rw[e4]at f2 f3 f4;exact⟨e,f1,f2,f3,f4⟩;rw[J? o?]at hy;obtain⟨e,f1,f2,f3,f4⟩:=Ki (pre++[x]++qz) post (by simp[VW];omega) (i-qz.length) y hy;exact tW
theorem Good.chain{P:List Pt}(hP:Good P):nM P (-1) 0 P.length:=by have:=hP.seg.chain [] [] rfl;simpa using this
theorem Good.inner{P:List Pt}(hP:Good P){i:Nat}{x:Pt}(h:P[i]? =some x): ∃e:Nat,x.end_=(e:Int)/\nM P (i:Int) (i+1) e/\(x.xZ=false->e=i+1)/\(x.opts.l≠[]->e=i+1):=by have:=hP.seg.inner [] [] rfl i x h;simpa using this
def Qz(ns:List Int)(ts:List qa)(n:Int)(t:qa):Prop:= ∃k:Nat,ns[k]? =some n/\ts[k]? =some t/\ ∀j,j<k->ns[j]? ≠some n
theorem Qz.one{ns:List Int}{ts:List qa}{n:Int}{t u:qa}(h1:Qz ns ts n t)(h2:Qz ns ts n u):t=u:=by obtain⟨k,a1,a2,a3⟩:=h1;obtain⟨j,b1,b2,b3⟩:=h2;exact tW
theorem Qz.app{ns:List Int}{ts:List qa}{n:Int}{t:qa}(h:Qz ns ts n t)(a:List Int)(b:List qa):Qz (ns++a) (ts++b) n t:=by obtain⟨k,a1,a2,a3⟩:=h;have k1:=(qF a1).1;have k2:=(qF a2).1;refine⟨k,by rw[r? k1];exact a1,by rw[r? k2];exact a2,fun j hj=>?_⟩;exact tW
theorem Qz.new{ns:List Int}{ts:List qa}(hl:ns.length=ts.length){n:Int}(hn:n∉ns)(t:qa):Qz (ns++[n]) (ts++[t]) n t:=by refine⟨ns.length,z?,by simp[hl],fun j hj=>?_⟩;exact tW
theorem Qz.cases{ns:List Int}{ts:List qa}(hl:ns.length=ts.length){n m:Int}{t u:qa}(hn:n∉ns)(h:Qz (ns++[n]) (ts++[t]) m u):(m=n/\u=t)\/Qz ns ts m u:=by obtain⟨k,a1,a2,a3⟩:=h;by_cases hk:k<ns.length;refine .inr ⟨k,by rw[r? hk]at a1;exact a1,by rw[r? o?]at a2;exact a2,fun j hj=>?_⟩;exact tW;exact tW
def Ev(P:List Pt)(ns:List Int)(ts:List qa)(i:Nat)(t:qa):Prop:=
 ∃(x:Pt)(b:qa),P[i]? =some x/\(x.kind=1->Qz ns ts x.n b)/\(x.kind≠1->b=x.text)/\(x.qL=false->t=b)/\(x.qL=true-> ∃l,hK x.qR b 20000=some (t,l,0))
theorem Ev.app{P:List Pt}{ns:List Int}{ts:List qa}{i:Nat}{t:qa}(h:Ev P ns ts i t)(a:List Int)(b:List qa):Ev P (ns++a) (ts++b) i t:=by obtain⟨x,c,h1,h2,h3,h4,h5⟩:=h;exact⟨x,c,h1,fun k=>(h2 k).app a b,h3,h4,h5⟩
theorem Ev.one{P:List Pt}{ns:List Int}{ts:List qa}{i:Nat}{t u:qa}(h1:Ev P ns ts i t)(h2:Ev P ns ts i u):t=u:=by
 obtain⟨x,b,a1,a2,a3,a4,a5⟩:=h1;obtain⟨y,c,b1,b2,b3,b4,b5⟩:=h2;rw[a1]at b1;cases b1;have hbc:b=c:=by by_cases k:x.kind=1;exact(a2 k).one (b2 k);rw[a3 k,b3 k]
 subst hbc;cases ht:x.qL;rw[a4 ht,b4 ht];exact tW
inductive mn (P:List Pt) (ns:List Int) (ts:List qa):Nat->Nat->qa->Prop
 |nil (i:Nat):mn P ns ts i i []
 |cons (i e hi:Nat) (x:Pt) (t u:qa) (hx:P[i]? =some x) (he:x.end_=(e:Int)) (hv:Ev P ns ts i t) (hr:mn P ns ts e hi u):mn P ns ts i hi (t++u)
theorem mn.app{P:List Pt}{ns:List Int}{ts:List qa}{i j:Nat}{t:qa}(h:mn P ns ts i j t)(a:List Int)(b:List qa):mn P (ns++a) (ts++b) i j t:=by induction h with|nil i=>exact .nil i|cons i e hi x t u hx he hv _ ih=>exact .cons i e hi x t u hx he (hv.app a b) ih
def Txt(P:List Pt)(ns:List Int)(ts:List qa)(n:Int)(t:qa):Prop:=
 (t=[]/\ ∀x∈P,x.kind=1->x.xZ=true->x.n≠n)\/ ∃(d e:Nat)(x:Pt),P[d]? =some x/\x.kind=1/\x.xZ=true/\x.n=n/\x.end_=(e:Int)/\(x.opts.l≠[]\/mn P ns ts (d+1) e t)
theorem Txt.app{P:List Pt}{ns:List Int}{ts:List qa}{n:Int}{t:qa}(h:Txt P ns ts n t)(a:List Int)(b:List qa):Txt P (ns++a) (ts++b) n t:=by rcases h with h|⟨d,e,x,h1,h2,h3,h4,h5,h6⟩;exact .inl h;exact .inr ⟨d,e,x,h1,h2,h3,h4,h5,h6.imp id fun h=>h.app a b⟩
structure ba (P:List Pt) (ns:List Int) (ts:List qa):Prop where
 len:ns.length=ts.length
 nd:ns.Nodup
 sub: ∀n∈ns,n∈P.map (·.n)
 txt: ∀n t,Qz ns ts n t->Txt P ns ts n t/\t.length<=65536
theorem ba.WY{P:List Pt}{ns:List Int}{ts:List qa}(h:ba P ns ts):ns.length<=P.length:=by simpa using J3 h.nd h.sub
theorem ba.more{P:List Pt}{ns:List Int}{ts:List qa}(h:ba P ns ts){n:Int}(hn:n∉ns)(hs:n∈P.map (·.n)){t:qa}(ht:Txt P ns ts n t)(hl:t.length<=65536):ba P (ns++[n]) (ts++[t]) where
 len:=by simp[h.len]
 nd:=by refine j!.2 ⟨h.nd,z?,fun a ha b hb=>?_⟩;exact tW
 sub:=by intro m hm;rcases m?.1 hm with hm|hm;exact h.sub m hm;exact tW
 txt:=by intro m u hu;rcases hu.cases h.len hn with ⟨rfl,rfl⟩|hu;exact⟨ht.app _ _,hl⟩;exact⟨(h.txt m u hu).1.app _ _,(h.txt m u hu).2⟩
theorem NC(n:Int)(ns:List Int)(ts:List qa)(hl:ns.length<=1099511627776)(he:ns.length=ts.length):qJ (tj n ns ts) (fun v=>(v= -1/\n∉ns)\/ ∃(k:Nat)(t:qa),v=k/\ts[k]? =some t/\k<ts.length/\Qz ns ts n t):=by
 have key: ∀(q:List Int)(k:Nat),ns.drop k=q->(∀ j,j<k->ns[j]? ≠some n)->qJ (wJ (n,(k:Int),ns,ts)) (fun v=>match v with| .inl v=> ∃(k:Nat)(t:qa),v=k/\ts[k]? =some t/\k<ts.length/\Qz ns ts n t| .inr _=>n∉q):=by intro q;induction q with|nil=>intro k hk hj;rw[wJ.eq_1,if_neg (by simpa using yu hk)];exact .ret z?|cons c q ih=>intro k hk hj;obtain⟨a1,a2,a3,a4⟩:=wS hk;obtain⟨b1,_,b3⟩:=drop_cons hk;rw[wJ.eq_1,if_pos (by simpa using a1),ll o? a1];refine .go a2 ?_;refine .tI ?_ ?_<;>intro hT;have SV:k<ts.length:=o?;have ht:ts[k]? =some ts[k]:=wu SV;exact .ret ⟨k,ts[k],rfl,ht,SV,k,by rw[b1,hT],ht,hj⟩;have jz:=hT;refine(ih (k+1) a3 fun j hj2=>?_).mono fun v hv=>?_;rcases Nat.lt_succ_iff_lt_or_eq.1 hj2 with h|rfl;exact hj j h;rw[b1];simpa using jz;rcases v with v|v;exact hv;intro h;rcases U?.1 h with h|h;exact jz h.symm;exact hv h
 unfold tj;refine .bind (key ns 0 rfl o?) fun v hv=>?_;rcases v with v|v;exact .ret (.inr hv);exact .ret (.inl ⟨rfl,hv⟩)
noncomputable def mu (P:List Pt) (n:Int):Nat:=by
 classical exact((P.map (·.n)).filter (fun m=>decide (S? (Holds P) n m))).length
theorem filter_le{p q:Int->Bool}(h: ∀x,p x=true->q x=true): ∀l:List Int,(l.filter p).length<=(l.filter q).length
 |[]=>z?
 |b::l=>by have ih:=filter_le h l;cases hp:p b;cases hq:q b;simpa[hp,hq]using ih;simp[hp,hq];omega;have hq:=h b hp;simpa[hp,hq]using ih
theorem filter_lt{p q:Int->Bool}: ∀(l:List Int),(∀ x,p x=true->q x=true)->(∃ x∈l,q x=true/\p x=false)->(l.filter p).length<(l.filter q).length
 |[],_,h=>by obtain⟨x,hx,_⟩:=h;cases hx
 |a::l,h,⟨x,hx,h1,h2⟩=>by have hl:=filter_le h l;rcases U?.1 hx with rfl|hx;simp[h1,h2];omega;have ih:=filter_lt l h ⟨x,hx,h1,h2⟩;cases hp:p a;cases hq:q a;simpa[hp,hq]using ih;simp[hp,hq];omega;have hq:=h a hp;simpa[hp,hq]using ih
theorem mu_lt{P:List Pt}(hN:UI P){n m:Int}(h:Holds P n m):mu P m<mu P n:=by classical unfold mu;refine filter_lt _ (fun x hx=>?_) ⟨m, ?_, ?_, ?_⟩;simp only[decide_eq_true_eq]at hx |-;exact S?.trans (.single h) hx;obtain⟨d,e,x,y,_,_,_,_,_,_,h7,_,h9⟩:=h;exact tW;simpa using S?.single h;simpa using hN m
theorem q0L{A B C D E F G H I J:Type}{o:Option (A×B×C×D×E×F×G×H×I×J)}{Q:A×B×C×D×E×F×G×H×I×J->Prop}(h:qJ o Q):
  qJ (o>>=fun v=>some (v.1,v.2.1,v.2.2.1,v.2.2.2.1,v.2.2.2.2.1,v.2.2.2.2.2.1,v.2.2.2.2.2.2.1,v.2.2.2.2.2.2.2.1,v.2.2.2.2.2.2.2.2.1,v.2.2.2.2.2.2.2.2.2)) Q:=qJ.bind h fun v hv=> .ret hv
section
variable {env:Sl qw} {lead unit:qa} {P:List Pt} {ds:List Int} {nm:List qa}
def OfQ(env:Sl qw)(lead unit:qa)(P:List Pt)(ds:List Int)(nm:List qa)(i:Nat)(x:Pt)(ns:List Int)(ts:List qa)(v:qa×Int×Sl qw×qa×qa×List Pt×List Int×List qa×List Int×List qa):Prop:=
 v.1.length<=17592186044416/\(v.2.1=0-> ∃a b,v.2.2=(env,lead,unit,P,ds,nm,ns++a,ts++b)/\ba P (ns++a) (ts++b)/\(∀ m∈a,x.kind=1/\(m=x.n\/S? (Holds P) x.n m))/\Ev P (ns++a) (ts++b) i v.1)
def TextQ(env:Sl qw)(lead unit:qa)(P:List Pt)(ds:List Int)(nm:List qa)(n:Int)(ns:List Int)(ts:List qa)(v:qa×Int×Sl qw×qa×qa×List Pt×List Int×List qa×List Int×List qa):Prop:=
 v.2.1=0-> ∃a b,v.2.2=(env,lead,unit,P,ds,nm,ns++a,ts++b)/\ba P (ns++a) (ts++b)/\(∀ m∈a,S? (Holds P) n m)/\Txt P (ns++a) (ts++b) n v.1/\v.1.length<=65536
theorem J5(hP:Good P)(hN:UI P)(i:Nat)(x:Pt)(hx:P[i]? =some x)(ns:List Int)(ts:List qa)(hM:ba P ns ts)
  (htxt:x.kind=1->qJ (yj (x.n,env,lead,unit,P,ds,nm,ns,ts)) (TextQ env lead unit P ds nm x.n ns ts)):
  qJ (xX ((i:Int),env,lead,unit,P,ds,nm,ns,ts)) (OfQ env lead unit P ds nm i x ns ts):=by have hl:=hP.len;have dh:=(qF hx).1;have LL:=z6 hx;have hg:=hP.ok x LL;have gY:=hM.WY;have hlen:=hM.len;rw[xX.eq_1];refine .go (a:=x) (by rw[xd dh];simpa[wu dh]using hx) ?_;refine .tI ?_ ?_<;>intro hT;have k1:=hT;refine .bind (NC x.n ns ts o? hlen) fun v hv=>?_;refine .tI ?_ ?_<;>intro hT;(have Hr:=hT;have hn:x.n∉ns:=by rcases hv with ⟨_,h⟩|⟨k,t,rfl,_⟩;exact h;omega);refine .bind (htxt k1) fun w hw=>?_;refine .tI ?_ ?_<;>intro hT;exact .ret ⟨z?,fun h=>absurd h hT⟩;(have hw0:=hT;obtain⟨a,b,e,m1,m2,m3,m4⟩:=hw hw0;obtain⟨w1,w2,w3⟩:=w;simp only at e m3 m4 hw0;subst e;have hna:x.n∉ns++a:=by intro h;rcases m?.1 h with h|h;exact hn h;exact hN _ (m2 _ h));(have hM2:=m1.more hna (N?.2 ⟨x,LL,rfl⟩) m3 m4;have r2:=m1.WY;have l2:=m1.len;simp only;refine .zx (by simp only[qg,zO,decide_eq_true_eq];omega) ?_;refine .zx (by simp only[qg,zO,decide_eq_true_eq];omega) ?_;have e1:q?.wrap (((ts++b++[w1]).length:Int)-1)=((ts++b).length:Int):=by simp only[t?,h?,e?]at r2 l2 |-;rw[wr o? o?];omega);(rw[e1];refine .go (ZX (ts++b) [] w1) ?_;have hLook:=Qz.new l2 hna w1;have hadd: ∀m∈a++[x.n],x.kind=1/\(m=x.n\/S? (Holds P) x.n m):=by intro m hm;rcases m?.1 hm with hm|hm;exact⟨k1,.inr (m2 m hm)⟩;simp only[a?]at hm;exact⟨k1,.inl hm⟩);refine .tI ?_ ?_<;>intro hT;have ht:=hT;obtain⟨r,hr,hq⟩:=aK x.qR hg.qR w1 o? 20000;refine .go hr ?_;refine .ret ⟨?_,fun h0=>⟨a++[x.n],b++[w1],z?,by simpa using hM2,hadd,x,w1,hx,fun _=>by simpa using hLook,fun h=>absurd k1 h,fun h=>(by rw[ht]at h;cases h),fun _=>⟨r.2.1, ?_⟩⟩⟩;rcases hq with hq|hq;simp only;omega;simp only[hq];omega;rw[hr];simp only at h0 |-;rw[<- h0];have ht:=hT;exact .ret ⟨u?,fun h0=>⟨a++[x.n],b++[w1],z?,by simpa using hM2,hadd,x,w1,hx,fun _=>by simpa using hLook,fun h=>absurd k1 h,fun _=>rfl,fun h=>(by rw[ht]at h;cases h)⟩⟩;have Hr:=hT;rcases hv with ⟨rfl,_⟩|⟨k,t,rfl,hk,pf,hL⟩;omega;have ht65:=(hM.txt _ _ hL).2;refine .go (a:=t) (by rw[xd pf];simpa[wu pf]using hk) ?_;refine .tI ?_ ?_<;>intro hT;have ht:=hT;obtain⟨r,hr,hq⟩:=aK x.qR hg.qR t o? 20000;refine .go hr ?_;refine .ret ⟨?_,fun h0=>⟨[],[],z?,by simpa using hM,z?,x,t,hx,fun _=>by simpa using hL,fun h=>absurd k1 h,fun h=>(by rw[ht]at h;cases h),fun _=>⟨r.2.1, ?_⟩⟩⟩;rcases hq with hq|hq;simp only;omega;simp only[hq];omega;rw[hr];simp only at h0 |-;rw[<- h0];have ht:=hT;exact .ret ⟨u?,fun h0=>⟨[],[],z?,by simpa using hM,z?,x,t,hx,fun _=>by simpa using hL,fun h=>absurd k1 h,fun _=>rfl,fun h=>(by rw[ht]at h;cases h)⟩⟩;have k1:=hT;refine .tI ?_ ?_<;>intro hT;have ht:=hT;have htt:=hg.tt ht;obtain⟨r,hr,hq⟩:=aK x.qR hg.qR x.text htt 20000;refine .go hr ?_;refine .ret ⟨?_,fun h0=>⟨[],[],z?,by simpa using hM,z?,x,x.text,hx,fun h=>absurd h k1,fun _=>rfl,fun h=>(by rw[ht]at h;cases h),fun _=>⟨r.2.1, ?_⟩⟩⟩;rcases hq with hq|hq;simp only;omega;simp only[hq];omega;rw[hr];simp only at h0 |-;rw[<- h0];have ht:=hT;exact .ret ⟨hg.tl,fun h0=>⟨[],[],z?,by simpa using hM,z?,x,x.text,hx,fun h=>absurd h k1,fun _=>rfl,fun _=>rfl,fun h=>(by rw[ht]at h;cases h)⟩⟩
abbrev RowR:=(qa×Int×qa×Sl qw×qa×qa×List Pt×List Int×List qa×List Int×List qa)⊕(qa×Sl qw×qa×qa×List Pt×List Int×List qa×List Int×List qa)
def RowQ(env:Sl qw)(lead unit:qa)(P:List Pt)(ds:List Int)(nm:List qa)(i hi:Nat)(s:qa)(ns:List Int)(ts:List qa):RowR->Prop
 | .inl y=>y.2.1≠0
 | .inr y=> ∃a b t,y=(s++t,env,lead,unit,P,ds,nm,ns++a,ts++b)/\ba P (ns++a) (ts++b)/\(∀ m∈a,∃(j:Nat)(x:Pt),i<=j/\j<hi/\P[j]? =some x/\x.kind=1/\(m=x.n\/S? (Holds P) x.n m))/\mn P (ns++a) (ts++b) i hi t/\(s++t).length<=65536
theorem row2_tot(hP:Good P){up:Int}{i hi:Nat}(hc:nM P up i hi): ∀(s:qa)(ns:List Int)(ts:List qa),s.length<=65536->ba P ns ts->
  (∀(j:Nat)(x:Pt)(ns:List Int)(ts:List qa),i<=j->j<hi->P[j]? =some x->ba P ns ts->qJ (xX ((j:Int),env,lead,unit,P,ds,nm,ns,ts)) (OfQ env lead unit P ds nm j x ns ts))->
  qJ (xN ((hi:Int),s,(i:Int),env,lead,unit,P,ds,nm,ns,ts)) (RowQ env lead unit P ds nm i hi s ns ts):=by induction hc with|nil up i=>intro s ns ts hs hM hof;rw[xN.eq_1,if_neg z?];exact .ret ⟨[],[],[],z?,by simpa using hM,z?,.nil _,by simpa using hs⟩|cons up i e hi x hx hu he xJ hle hk hd ho hr _ Ki=>intro s ns ts hs hM hof;have dh:=(qF hx).1;rw[xN.eq_1,if_pos v?];refine .bind (hof i x ns ts (jx _) o? hx hM) fun v hv=>?_;refine .tI ?_ ?_<;>intro hT;exact .ret hT;have Hr:=hT;obtain⟨a,b,e1,m1,m2,m3⟩:=hv.2 Hr;obtain⟨v1,v2,v3⟩:=v;have Nk:=hv.1;simp only at e1 m3 Hr Nk;subst e1;simp only;refine .zx o? ?_;refine .tI ?_ ?_<;>intro hT;exact .ret (by simp[RowQ]);have hlen:=hT;refine .go (a:=x) (by rw[xd dh];simpa[wu dh]using hx) ?_;rw[he];refine(Ki (s++v1) (ns++a) (ts++b) o? m1 (fun j y ns ts h1 h2=>hof j y ns ts o? h2)).mono fun w hw=>?_;rcases w with w|w;exact hw;obtain⟨a2,b2,t,w1,w2,w3,w4,w5⟩:=hw;refine⟨a++a2,b++b2,v1++t, ?_, ?_, ?_, ?_, ?_⟩;rw[w1];simp;simpa using w2;intro m hm;rcases m?.1 hm with hm|hm;exact⟨i,x,jx _,o?,hx,m2 m hm⟩;obtain⟨j,y,j1,j2,j3⟩:=w3 m hm;exact⟨j,y,o?,j2,j3⟩;have:=mn.cons i e hi x v1 t hx he (m3.app a2 b2) w4;simpa using this;simpa using w5
theorem row1_tot(hP:Good P){up:Int}{i hi:Nat}(hc:nM P up i hi): ∀(s:qa)(ns:List Int)(ts:List qa),s.length<=65536->ba P ns ts->
  (∀(j:Nat)(x:Pt)(ns:List Int)(ts:List qa),i<=j->j<hi->P[j]? =some x->ba P ns ts->qJ (xX ((j:Int),env,lead,unit,P,ds,nm,ns,ts)) (OfQ env lead unit P ds nm j x ns ts))->
  qJ (w7 ((hi:Int),s,(i:Int),env,lead,unit,P,ds,nm,ns,ts)) (RowQ env lead unit P ds nm i hi s ns ts):=by induction hc with|nil up i=>intro s ns ts hs hM hof;rw[w7.eq_1,if_neg z?];exact .ret ⟨[],[],[],z?,by simpa using hM,z?,.nil _,by simpa using hs⟩|cons up i e hi x hx hu he xJ hle hk hd ho hr _ Ki=>intro s ns ts hs hM hof;have dh:=(qF hx).1;rw[w7.eq_1,if_pos v?];refine .bind (hof i x ns ts (jx _) o? hx hM) fun v hv=>?_;refine .tI ?_ ?_<;>intro hT;exact .ret hT;have Hr:=hT;obtain⟨a,b,e1,m1,m2,m3⟩:=hv.2 Hr;obtain⟨v1,v2,v3⟩:=v;have Nk:=hv.1;simp only at e1 m3 Hr Nk;subst e1;simp only;refine .zx o? ?_;refine .tI ?_ ?_<;>intro hT;exact .ret (by simp[RowQ]);have hlen:=hT;refine .go (a:=x) (by rw[xd dh];simpa[wu dh]using hx) ?_;rw[he];refine(Ki (s++v1) (ns++a) (ts++b) o? m1 (fun j y ns ts h1 h2=>hof j y ns ts o? h2)).mono fun w hw=>?_;rcases w with w|w;exact hw;obtain⟨a2,b2,t,w1,w2,w3,w4,w5⟩:=hw;refine⟨a++a2,b++b2,v1++t, ?_, ?_, ?_, ?_, ?_⟩;rw[w1];simp;simpa using w2;intro m hm;rcases m?.1 hm with hm|hm;exact⟨i,x,jx _,o?,hx,m2 m hm⟩;obtain⟨j,y,j1,j2,j3⟩:=w3 m hm;exact⟨j,y,o?,j2,j3⟩;have:=mn.cons i e hi x v1 t hx he (m3.app a2 b2) w4;simpa using this;simpa using w5
theorem text_tot(hP:Good P)(hN:UI P): ∀(M:Nat)(n:Int),mu P n=M-> ∀(ns:List Int)(ts:List qa),ba P ns ts->qJ (yj (n,env,lead,unit,P,ds,nm,ns,ts)) (TextQ env lead unit P ds nm n ns ts):=by
 have hl:=hP.len;intro M;induction M using p? with
  |_ M ih=>
   intro n hn ns ts hM;rw[yj.eq_1];refine .bind (Z7 n P ds nm hl) fun v hv=>?_;refine .tI ?_ ?_<;>intro hT;have Hr:=hT;rcases hv with ⟨_,h⟩|⟨d,x,rfl,_⟩;exact .ret fun _=>⟨[],[],z?,by simpa using hM,z?,.inl ⟨rfl,h⟩,z?⟩;omega;have Hr:=hT;rcases hv with ⟨rfl,_⟩|⟨d,x,rfl,hd,x1,x2,x3⟩;omega;have SR:=(qF hd).1;obtain⟨e,he,hc,_,_⟩:=hP.inner hd;refine .go (a:=x) (by rw[xd SR];simpa[wu SR]using hd) ?_;refine .tI ?_ ?_<;>intro hT;have Ho:=hT;refine .bind .get fun o _=>?_;refine .tI ?_ ?_<;>intro hT;(exact .ret fun h=>by simp at h);have hlen:=hT;refine .ret fun _=>⟨[],[],z?,by simpa using hM,z?,.inr ⟨d,e,x,hd,x1,x2,x3,he,.inl ?_⟩,u?⟩;intro h;rw[h]at Ho;simp at Ho
   have Ho:=hT;have hee:=hP.end_ hd;rw[wr (n:=(d:Int)+1) o? o?,show((d:Int)+1)=((d+1:Nat):Int) by omega,he];have dK: ∀(j:Nat)(y:Pt),d+1<=j->j<e->P[j]? =some y->y.kind=1->Holds P n y.n:=fun j y h1 h2 h3 h4=>⟨d,j,x,y,hd,x1,x2,x3,o?,o?,h3,h4,rfl⟩;have eB:=row2_tot (env:=env) (lead:=lead) (unit:=unit) (ds:=ds) (nm:=nm) hP hc [] ns ts z? hM (fun j y ns ts h1 h2 h3 h4=>
    J5 hP hN j y h3 ns ts h4 fun hk=>ih (mu P y.n) (by rw[<- hn];exact mu_lt hN (dK j y h1 h2 h3 hk)) y.n rfl ns ts h4)
   refine q0L (o:=yV (((d+1:Nat):Int),(e:Int),env,lead,unit,P,ds,nm,ns,ts)) ?_;rw[yV.eq_1];refine .bind eB fun w hw=>?_;rcases w with w|w;exact .ret fun h=>absurd h hw;obtain⟨a,b,t,rfl,w2,w3,w4,w5⟩:=hw;refine .ret fun _=>⟨a,b,rfl,w2,fun m hm=>?_,.inr ⟨d,e,x,hd,x1,x2,x3,he,.inr (by simpa using w4)⟩,by simpa using w5⟩;obtain⟨j,y,j1,j2,j3,j4,j5⟩:=w3 m hm;have h:=dK j y j1 j2 j3 j4;rcases j5 with rfl|j5;exact .single h;exact S?.trans (.single h) j5
end
inductive o7 (H:Int->Int->Prop):Int->Int->Int->Nat->List qq->Prop
 |nil (up lo hi:Int) (b:Nat) (h:lo<=hi):o7 H up lo hi b []
 |cons (up lo hi:Int) (b:Nat) (x:qq) (qz rest:List qq) (hu:x.up=up) (h1:lo<=x.span.qB) (h2:x.span.qB<=x.span.to) (hH: ∀y∈qz,H x.n y.n)
   (hk:o7 H (b:Int) x.span.qB x.span.to (b+1) qz) (hr:o7 H up x.span.to hi (b+1+qz.length) rest):o7 H up lo hi b (x::(qz++rest))
theorem o7.le{H:Int->Int->Prop}{up lo hi:Int}{b:Nat}{l:List qq}(h:o7 H up lo hi b l):lo<=hi:=by induction h with|nil _ _ _ _ h=>exact h|cons _ _ _ _ _ _ _ _ h1 h2 _ _ _ _ ih=>omega
theorem o7.mono{H:Int->Int->Prop}{up lo hi:Int}{b:Nat}{l:List qq}(h:o7 H up lo hi b l){yw:Int}(hh:hi<=yw):o7 H up lo yw b l:=by induction h with|nil up lo hi b h=>exact .nil _ _ _ _ o?|cons up lo hi b x qz rest hu h1 h2 hH hk _ _ ih=>exact .cons up lo yw b x qz rest hu h1 h2 hH hk (ih hh)
theorem o7.low{H:Int->Int->Prop}{up lo hi:Int}{b:Nat}{l:List qq}(h:o7 H up lo hi b l){lo' :Int}(hh:lo' <=lo):o7 H up lo' hi b l:=by cases h with|nil up lo hi b h=>exact .nil _ _ _ _ o?|cons up lo hi b x qz rest hu h1 h2 hH hk hr=>exact .cons up lo' hi b x qz rest hu o? h2 hH hk hr
theorem o7.Gj{H:Int->Int->Prop}{up lo hi:Int}{b:Nat}{l:List qq}(h:o7 H up lo hi b l)(x:qq)(hu:x.up=up)(h1:x.span.qB=hi)(h2:x.span.to=hi):o7 H up lo hi b (l++[x]):=by induction h with|nil up lo hi b h=>exact .cons up lo hi b x [] [] hu o? o? z? (.nil _ _ _ _ o?) (.nil _ _ _ _ o?)|cons up lo hi b y qz rest hu' h1' h2' hH hk _ _ ih=>have:=o7.cons up lo hi b y qz (rest++[x]) hu' h1' h2' hH hk (ih hu h1 h2);simpa using this
def lC(P:List Pt)(j:Nat):Nat:=(P.take j).countP (fun x=>x.kind==1)
theorem lD{P:List Pt}{i:Nat}{x:Pt}(h:P[i]? =some x):lC P (i+1)=lC P i+if x.kind=1 then 1 else 0:=by obtain⟨hl,rfl⟩:=qF h;unfold lC;rw[List.take_succ_eq_append_getElem hl,List.countP_append];exact tW
section
variable {env:Sl qw} {lead unit:qa} {P:List Pt} {ds:List Int} {nm:List qa} {ns:List Int} {ts:List qa}
theorem Cn(hP:Good P)(hM:ba P ns ts)(i:Nat)(t:qa)(hv:Ev P ns ts i t):xX ((i:Int),env,lead,unit,P,ds,nm,ns,ts)=some (t,0,env,lead,unit,P,ds,nm,ns,ts):=by
 have hl:=hP.len;have gY:=hM.WY;have hlen:=hM.len;obtain⟨x,b,hx,h1,h2,h3,h4⟩:=hv;have dh:=(qF hx).1;have GI:qh P (i:Int)=some x:=by rw[xd dh];simpa[wu dh]using hx
 rw[xX.eq_1,GI];simp only[zF,qS];by_cases k1:x.kind=1;have hL:=h1 k1;obtain⟨v,Zf,TA⟩:=NC x.n ns ts o? hlen;rcases TA with ⟨_,hn⟩|⟨k,t',rfl,hk,pf,hL'⟩;obtain⟨k,a1,_⟩:=hL;exact absurd (z6 a1) hn;(have:=hL.one hL';subst this;have P4:qh ts (k:Int)=some b:=by rw[xd pf];simpa[wu pf]using hk);exact tW;have hb:=h2 k1;subst hb;rw[if_neg (by simp[k1])];cases ht:x.qL;rw[if_neg z?,h3 ht];obtain⟨l,hl⟩:=h4 ht;rw[if_pos rfl,hl];rfl
theorem Nt(hP:Good P)(hM:ba P ns ts){i:Nat}{x:Pt}{t:qa}(hx:P[i]? =some x)(hk:x.kind=1)(hd:x.xZ=true)(hv:Ev P ns ts i t){e:Nat}(he:x.end_=(e:Int))(ho:x.opts.l≠[]->e=i+1): ∃u,mn P ns ts (i+1) e u/\u.length<=t.length:=by obtain⟨y,b,h0,h1,_,h3,_⟩:=hv;rw[hx]at h0;cases h0;have ht:=h3 ((hP.ok x (z6 hx)).dt hd);subst ht;rcases(hM.txt _ _ (h1 hk)).1 with ⟨_,h⟩|⟨d,e',y,a1,a2,a3,a4,a5,a6⟩;exact absurd rfl (h x (z6 hx) hk hd);have:d=i:=Kc hP.un a1 hx a3 hd a4;subst this;rw[hx]at a1;cases a1;have:e' =e:=o?;subst this;rcases a6 with a6|a6;rw[ho a6];exact⟨[],.nil _,B! _⟩;exact⟨_,a6,jx _⟩
structure O2 (P:List Pt) (qp:Int) (i hi:Nat) (W:qa) (out:List qq) (qY:List Int) (Xt:Int) (l:List qq) (pl:List Int):Prop where
 Ma:pl.length=qY.length
 sm: ∀j,j<i->pl[j]? =qY[j]?
 Pc:o7 (Holds P) Xt qp (qp+W.length) out.length l
 mem: ∀y∈l,∃(j:Nat)(p:Pt),i<=j/\j<hi/\P[j]? =some p/\p.kind=1/\p.n=y.n/\p.qR=y.qR/\p.opts=y.opts
 len:l.length+lC P i<=lC P hi
theorem S7(hP:Good P)(hM:ba P ns ts){up:Int}{i hi:Nat}(hc:nM P up i hi): ∀(qp:Int)(W:qa)(out:List qq)(qY:List Int)(Xt:Int),mn P ns ts i hi W->0<=qp->qp+W.length<=65536->hi<=P.length->qY.length=P.length->out.length+hi<=P.length+i->
  ((up= -1/\Xt= -1)\/ ∃u:Nat,up=u/\u<i/\qY[u]? =some Xt)->
  qJ (zb ((hi:Int),qp,(i:Int),env,lead,unit,out,qY,P,ds,nm,ns,ts)) (fun v=> ∃l pl,v=(qp+W.length,env,lead,unit,out++l,pl,P,ds,nm,ns,ts)/\O2 P qp i hi W out qY Xt l pl):=by
 have hPl:=hP.len;induction hc with
  |nil up i=>(intro qp W out qY Xt hR h0 h1 hhi cp Ho QR;have hT0:W=[]:=by cases hR with|nil=>rfl|cons _ e _ x t u hx he _ hr=>(have h3:=(hP.end_ hx).1;have h4: ∀{a b:Nat}{t:qa},mn P ns ts a b t->a<=b:=by intro a b t h;induction h with|nil=>omega|cons a e b x t u hx he _ _ ih=>have:=(hP.end_ hx).1;omega);have:=h4 hr;omega);subst hT0;rw[zb.eq_1,if_neg z?];exact .ret ⟨[],qY,z?,rfl,fun _ _=>rfl,.nil _ _ _ _ z?,z?,z?⟩
  |cons up i e hi x hx hu he xJ hle hk hd ho hr GK Ki=>
   (intro qp W out qY Xt hR h0 h1 hhi cp Ho QR;have dh:=(qF hx).1;have GI:qh P (i:Int)=some x:=by rw[xd dh];simpa[wu dh]using hx);(obtain⟨t,u,hTu,hv,hru⟩: ∃t u,W=t++u/\Ev P ns ts i t/\mn P ns ts e hi u:=by cases hR with|nil=>omega|cons _ e' _ y t u hy hye hv hr2=>rw[hx]at hy;cases hy;have:e' =e:=o?;subst this;exact⟨t,u,rfl,hv,hr2⟩);subst hTu;simp only[t?]at h1;have SQ:=lD hx;have hchi:lC P (i+1)<=lC P e:=by unfold lC;exact q26.countP_le (C_ o?)
   rw[zb.eq_1,if_pos v?];refine .go GI ?_;refine .go (Cn hP hM i t hv) ?_;simp only;have ew:q?.wrap (qp+(t.length:Int))=qp+t.length:=wr o? o?;rw[ew];have behind: ∀(l:List qq)(pl:List Int),O2 P qp i e t out qY Xt l pl->l.length<=e-i->
     qJ (qh P (i:Int)>>=fun y=>zb ((hi:Int),qp+t.length,y.end_,env,lead,unit,out++l,pl,P,ds,nm,ns,ts)) (fun v=> ∃l pl,v=(qp+(t++u).length,env,lead,unit,out++l,pl,P,ds,nm,ns,ts)/\O2 P qp i hi (t++u) out qY Xt l pl):=by
    intro l pl h FA;refine .go GI ?_;rw[he];refine(Ki (qp+t.length) u (out++l) pl Xt hru o? o? hhi (h.Ma.trans cp) v? ?_).mono fun v hv=>?_
    ·rcases QR with QR|⟨w,w1,w2,w3⟩
     ·exact .inl QR
     exact .inr ⟨w,w1,o?,by rw[h.sm w w2];exact w3⟩
    obtain⟨l2,pl2,rfl,q⟩:=hv;refine⟨l++l2,pl2,by simp[X_],q.Ma.trans h.Ma,fun j hj=>(q.sm j o?).trans (h.sm j hj), ?_, ?_, ?_⟩
    ·have h2:=q.Pc;have h1:=h.Pc;have app: ∀{up lo hi:Int}{b:Nat}{l:List qq},o7 (Holds P) up lo hi b l-> ∀{P5:Int}{r:List qq},o7 (Holds P) up hi P5 (b+l.length) r->o7 (Holds P) up lo P5 b (l++r):=by
      intro up lo hi b l hl;induction hl with
      |nil up lo hi b h=>intro P5 r hr;simpa using hr.low h
      |cons up lo hi b x qz rest hu h1 h2 hH hk _ _ ih=>
       intro P5 r hr;have e1:b+(x::(qz++rest)).length=b+1+qz.length+rest.length:=v?;rw[e1]at hr;have:=o7.cons up lo P5 b x qz (rest++r) hu h1 h2 hH hk (ih hr);simpa using this
     simp only[t?]at h2;have:=app h1 h2;simpa[X_]using this
    ·intro y hy;rcases m?.1 hy with hy|hy
     ·obtain⟨j,p,j1,j2,j3⟩:=h.mem y hy;exact⟨j,p,j1,o?,j3⟩
     obtain⟨j,p,j1,j2,j3⟩:=q.mem y hy;exact⟨j,p,o?,j2,j3⟩
    have:=q.len;have:=h.len;simp only[t?];omega
   by_cases k1:x.kind=1
   ·rw[if_pos k1]at SQ;rw[if_pos (by simp[k1])];have stop: ∀(S:qq),S.up=Xt->S.span.qB=qp->S.span.to=qp+t.length->S.n=x.n->S.qR=x.qR->S.opts=x.opts->
      qJ (qh qY (i:Int)>>=fun _=>if qg (out.length+1) 200=true then
       if x.xZ=true then
        zC (q?.wrap ((i:Int)+1),x.end_,qp,env,lead,unit,out++[S],qY.set (i:Int).toNat (out.length:Int),P,ds,nm,ns,ts)>>=fun v=>
        qh v.2.2.2.2.2.2.1 (i:Int)>>=fun y=>
        zb ((hi:Int),qp+t.length,y.end_,v.2.1,v.2.2.1,v.2.2.2.1,v.2.2.2.2.1,v.2.2.2.2.2.1,v.2.2.2.2.2.2.1,v.2.2.2.2.2.2.2.1,v.2.2.2.2.2.2.2.2.1,v.2.2.2.2.2.2.2.2.2.1,v.2.2.2.2.2.2.2.2.2.2)
       else
        qh P (i:Int)>>=fun y=>zb ((hi:Int),qp+t.length,y.end_,env,lead,unit,out++[S],qY.set (i:Int).toNat (out.length:Int),P,ds,nm,ns,ts)
       else none) (fun v=> ∃l pl,v=(qp+(t++u).length,env,lead,unit,out++l,pl,P,ds,nm,ns,ts)/\O2 P qp i hi (t++u) out qY Xt l pl):=by
     intro S s1 s2 s3 s4 s5 s6;refine .bind .get fun _ _=>?_;refine .zx (by simp only[qg,zO,decide_eq_true_eq];omega) ?_;rw[d?];have px: ∀j,j<i->(qY.set i (out.length:Int))[j]? =qY[j]? :=fun j hj=>by rw[N!];rw[if_neg o?]
     cases Nd:x.xZ
     ·rw[if_neg z?];refine behind [S] _ ⟨z?,px, ?_, ?_,v?⟩ v?
      ·exact .cons Xt qp _ out.length S [] [] s1 o? o? z? (.nil _ _ _ _ o?) (.nil _ _ _ _ o?)
      intro y hy;simp only[a?]at hy;subst hy;exact⟨i,x,jx _,xJ,hx,k1,s4.symm,s5.symm,s6.symm⟩
     rw[if_pos rfl];obtain⟨w,w1,w2⟩:=Nt hP hM hx k1 Nd hv he ho;have SV:=GK qp w (out++[S]) (qY.set i (out.length:Int)) (out.length:Int) w1 h0 o? o? (by simpa using cp) v? (.inr ⟨i,rfl,o?,m_ o?⟩);have hk3:qJ (zC (((i+1:Nat):Int),x.end_,qp,env,lead,unit,out++[S],qY.set i (out.length:Int),P,ds,nm,ns,ts)) (fun v=> ∃l pl,v=(qp+w.length,env,lead,unit,out++[S]++l,pl,P,ds,nm,ns,ts)/\O2 P qp (i+1) e w (out++[S]) (qY.set i (out.length:Int)) (out.length:Int) l pl):=by
      rw[zC.eq_1,he];exact .bind SV fun v hv=> .ret hv
     rw[wr (n:=(i:Int)+1) o? o?,show((i:Int)+1)=((i+1:Nat):Int) by omega];refine .bind hk3 fun v hv=>?_;obtain⟨l,pl,rfl,q⟩:=hv;have e1:out++[S]++l=out++(S::l):=z?;simp only[e1];have hql:=q.len;have Xw:lC P e<=lC P (i+1)+(e-(i+1)):=by
      have: ∀d,lC P (i+1+d)<=lC P (i+1)+d:=by
       intro d;induction d with
       |zero=>simp
       |succ d ih=>
        by_cases P1:i+1+d<P.length
        ·have:=lD (wu P1);rw[show i+1+(d+1)=i+1+d+1 by omega,this];split<;>omega
        have e2:lC P (i+1+(d+1))=lC P (i+1+d):=by unfold lC;rw[a! o?,a! o?]
        omega
      have:=this (e-(i+1));rw[show i+1+(e-(i+1))=e by omega]at this;exact this
     refine behind (S::l) pl ⟨by simpa using q.Ma,fun j hj=>(q.sm j o?).trans (px j hj), ?_, ?_,v?⟩ v?
     ·have Fz:o7 (Holds P) (out.length:Int) S.span.qB S.span.to (out.length+1) l:=by
       rw[s2,s3];have:=q.Pc;simp only[t?,h?,e?]at this;exact this.mono o?
      have:=o7.cons Xt qp (qp+t.length) out.length S l [] s1 o? o? (fun y hy=>?_) Fz (.nil _ _ _ _ o?)
      ·simpa using this
      obtain⟨j,p,j1,j2,j3,j4,j5,_⟩:=q.mem y hy;rw[s4];exact⟨i,j,x,p,hx,k1,Nd,rfl,o?,o?,j3,j4,j5⟩
     intro y hy;rcases U?.1 hy with rfl|hy
     ·exact⟨i,x,jx _,xJ,hx,k1,s4.symm,s5.symm,s6.symm⟩
     obtain⟨j,p,j1,j2,j3⟩:=q.mem y hy;exact⟨j,p,o?,j2,j3⟩
    rcases QR with ⟨u1,u2⟩|⟨w,w1,w2,w3⟩;rw[if_neg v?];exact stop _ u2.symm rfl rfl rfl rfl rfl;rw[if_pos v?];have hwl:=(qF w3).1;refine .go (a:=Xt) (by rw[hu,w1,xd hwl];simpa[wu hwl]using w3) ?_;exact stop _ rfl rfl rfl rfl rfl rfl
   rw[if_neg k1]at SQ;rw[if_neg (by simp[k1])];have hde:e=i+1:=hd ((hP.ok x (z6 hx)).other k1).1;have:=behind [] qY ⟨rfl,fun _ _=>rfl,.nil _ _ _ _ o?,z?,v?⟩ z?;simpa using this
end
section
variable {env:Sl qw} {lead unit:qa} {P:List Pt} {ds:List Int} {nm:List qa} {ns:List Int} {ts:List qa}
theorem S6(hP:Good P)(hM:ba P ns ts){up:Int}{i hi:Nat}(hc:nM P up i hi): ∀(qp:Int)(W:qa)(out:List qq)(qY:List Int)(Xt:Int),mn P ns ts i hi W->0<=qp->qp+W.length<=65536->hi<=P.length->qY.length=P.length->out.length+hi<=P.length+i->
  ((up= -1/\Xt= -1)\/ ∃u:Nat,up=u/\u<i/\qY[u]? =some Xt)->
  qJ (zw ((hi:Int),qp,(i:Int),env,lead,unit,qY,P,ds,nm,ns,ts,out)) (fun v=> ∃l pl,v=(qp+W.length,env,lead,unit,pl,P,ds,nm,ns,ts,out++l)/\O2 P qp i hi W out qY Xt l pl):=by
 have hPl:=hP.len;induction hc with
  |nil up i=>(intro qp W out qY Xt hR h0 h1 hhi cp Ho QR;have hT0:W=[]:=by cases hR with|nil=>rfl|cons _ e _ x t u hx he _ hr=>(have h3:=(hP.end_ hx).1;have h4: ∀{a b:Nat}{t:qa},mn P ns ts a b t->a<=b:=by intro a b t h;induction h with|nil=>omega|cons a e b x t u hx he _ _ ih=>have:=(hP.end_ hx).1;omega);have:=h4 hr;omega);subst hT0;rw[zw.eq_1,if_neg z?];exact .ret ⟨[],qY,z?,rfl,fun _ _=>rfl,.nil _ _ _ _ z?,z?,z?⟩
  |cons up i e hi x hx hu he xJ hle hk hd ho hr GK Ki=>
   (intro qp W out qY Xt hR h0 h1 hhi cp Ho QR;have dh:=(qF hx).1;have GI:qh P (i:Int)=some x:=by rw[xd dh];simpa[wu dh]using hx);(obtain⟨t,u,hTu,hv,hru⟩: ∃t u,W=t++u/\Ev P ns ts i t/\mn P ns ts e hi u:=by cases hR with|nil=>omega|cons _ e' _ y t u hy hye hv hr2=>rw[hx]at hy;cases hy;have:e' =e:=o?;subst this;exact⟨t,u,rfl,hv,hr2⟩);subst hTu;simp only[t?]at h1;have SQ:=lD hx;have hchi:lC P (i+1)<=lC P e:=by unfold lC;exact q26.countP_le (C_ o?)
   rw[zw.eq_1,if_pos v?];refine .go GI ?_;refine .go (Cn hP hM i t hv) ?_;simp only;have ew:q?.wrap (qp+(t.length:Int))=qp+t.length:=wr o? o?;rw[ew];have behind: ∀(l:List qq)(pl:List Int),O2 P qp i e t out qY Xt l pl->l.length<=e-i->
     qJ (qh P (i:Int)>>=fun y=>zw ((hi:Int),qp+t.length,y.end_,env,lead,unit,pl,P,ds,nm,ns,ts,out++l)) (fun v=> ∃l pl,v=(qp+(t++u).length,env,lead,unit,pl,P,ds,nm,ns,ts,out++l)/\O2 P qp i hi (t++u) out qY Xt l pl):=by
    intro l pl h FA;refine .go GI ?_;rw[he];refine(Ki (qp+t.length) u (out++l) pl Xt hru o? o? hhi (h.Ma.trans cp) v? ?_).mono fun v hv=>?_
    ·rcases QR with QR|⟨w,w1,w2,w3⟩
     ·exact .inl QR
     exact .inr ⟨w,w1,o?,by rw[h.sm w w2];exact w3⟩
    obtain⟨l2,pl2,rfl,q⟩:=hv;refine⟨l++l2,pl2,by simp[X_],q.Ma.trans h.Ma,fun j hj=>(q.sm j o?).trans (h.sm j hj), ?_, ?_, ?_⟩
    ·have h2:=q.Pc;have h1:=h.Pc;have app: ∀{up lo hi:Int}{b:Nat}{l:List qq},o7 (Holds P) up lo hi b l-> ∀{P5:Int}{r:List qq},o7 (Holds P) up hi P5 (b+l.length) r->o7 (Holds P) up lo P5 b (l++r):=by
      intro up lo hi b l hl;induction hl with
      |nil up lo hi b h=>intro P5 r hr;simpa using hr.low h
      |cons up lo hi b x qz rest hu h1 h2 hH hk _ _ ih=>
       intro P5 r hr;have e1:b+(x::(qz++rest)).length=b+1+qz.length+rest.length:=v?;rw[e1]at hr;have:=o7.cons up lo P5 b x qz (rest++r) hu h1 h2 hH hk (ih hr);simpa using this
     simp only[t?]at h2;have:=app h1 h2;simpa[X_]using this
    ·intro y hy;rcases m?.1 hy with hy|hy
     ·obtain⟨j,p,j1,j2,j3⟩:=h.mem y hy;exact⟨j,p,j1,o?,j3⟩
     obtain⟨j,p,j1,j2,j3⟩:=q.mem y hy;exact⟨j,p,o?,j2,j3⟩
    have:=q.len;have:=h.len;simp only[t?];omega
   by_cases k1:x.kind=1
   ·rw[if_pos k1]at SQ;rw[if_pos (by simp[k1])];have stop: ∀(S:qq),S.up=Xt->S.span.qB=qp->S.span.to=qp+t.length->S.n=x.n->S.qR=x.qR->S.opts=x.opts->
      qJ (qh qY (i:Int)>>=fun _=>if qg (out.length+1) 200=true then
       if x.xZ=true then
        zC (q?.wrap ((i:Int)+1),x.end_,qp,env,lead,unit,out++[S],qY.set (i:Int).toNat (out.length:Int),P,ds,nm,ns,ts)>>=fun v=>
        qh v.2.2.2.2.2.2.1 (i:Int)>>=fun y=>
        zw ((hi:Int),qp+t.length,y.end_,v.2.1,v.2.2.1,v.2.2.2.1,v.2.2.2.2.2.1,v.2.2.2.2.2.2.1,v.2.2.2.2.2.2.2.1,v.2.2.2.2.2.2.2.2.1,v.2.2.2.2.2.2.2.2.2.1,v.2.2.2.2.2.2.2.2.2.2,v.2.2.2.2.1)
       else
        qh P (i:Int)>>=fun y=>zw ((hi:Int),qp+t.length,y.end_,env,lead,unit,qY.set (i:Int).toNat (out.length:Int),P,ds,nm,ns,ts,out++[S])
       else none) (fun v=> ∃l pl,v=(qp+(t++u).length,env,lead,unit,pl,P,ds,nm,ns,ts,out++l)/\O2 P qp i hi (t++u) out qY Xt l pl):=by
     intro S s1 s2 s3 s4 s5 s6;refine .bind .get fun _ _=>?_;refine .zx (by simp only[qg,zO,decide_eq_true_eq];omega) ?_;rw[d?];have px: ∀j,j<i->(qY.set i (out.length:Int))[j]? =qY[j]? :=fun j hj=>by rw[N!];rw[if_neg o?]
     cases Nd:x.xZ
     ·rw[if_neg z?];refine behind [S] _ ⟨z?,px, ?_, ?_,v?⟩ v?
      ·exact .cons Xt qp _ out.length S [] [] s1 o? o? z? (.nil _ _ _ _ o?) (.nil _ _ _ _ o?)
      intro y hy;simp only[a?]at hy;subst hy;exact⟨i,x,jx _,xJ,hx,k1,s4.symm,s5.symm,s6.symm⟩
     rw[if_pos rfl];obtain⟨w,w1,w2⟩:=Nt hP hM hx k1 Nd hv he ho;have SV:=S7 (env:=env) (lead:=lead) (unit:=unit) (ds:=ds) (nm:=nm) hP hM hk qp w (out++[S]) (qY.set i (out.length:Int)) (out.length:Int) w1 h0 o? o? (by simpa using cp) v? (.inr ⟨i,rfl,o?,m_ o?⟩);have hk3:qJ (zC (((i+1:Nat):Int),x.end_,qp,env,lead,unit,out++[S],qY.set i (out.length:Int),P,ds,nm,ns,ts)) (fun v=> ∃l pl,v=(qp+w.length,env,lead,unit,out++[S]++l,pl,P,ds,nm,ns,ts)/\O2 P qp (i+1) e w (out++[S]) (qY.set i (out.length:Int)) (out.length:Int) l pl):=by
      rw[zC.eq_1,he];exact .bind SV fun v hv=> .ret hv
     rw[wr (n:=(i:Int)+1) o? o?,show((i:Int)+1)=((i+1:Nat):Int) by omega];refine .bind hk3 fun v hv=>?_;obtain⟨l,pl,rfl,q⟩:=hv;have e1:out++[S]++l=out++(S::l):=z?;simp only[e1];have hql:=q.len;have Xw:lC P e<=lC P (i+1)+(e-(i+1)):=by
      have: ∀d,lC P (i+1+d)<=lC P (i+1)+d:=by
       intro d;induction d with
       |zero=>simp
       |succ d ih=>
        by_cases P1:i+1+d<P.length
        ·have:=lD (wu P1);rw[show i+1+(d+1)=i+1+d+1 by omega,this];split<;>omega
        have e2:lC P (i+1+(d+1))=lC P (i+1+d):=by unfold lC;rw[a! o?,a! o?]
        omega
      have:=this (e-(i+1));rw[show i+1+(e-(i+1))=e by omega]at this;exact this
     refine behind (S::l) pl ⟨by simpa using q.Ma,fun j hj=>(q.sm j o?).trans (px j hj), ?_, ?_,v?⟩ v?
     ·have Fz:o7 (Holds P) (out.length:Int) S.span.qB S.span.to (out.length+1) l:=by
       rw[s2,s3];have:=q.Pc;simp only[t?,h?,e?]at this;exact this.mono o?
      have:=o7.cons Xt qp (qp+t.length) out.length S l [] s1 o? o? (fun y hy=>?_) Fz (.nil _ _ _ _ o?)
      ·simpa using this
      obtain⟨j,p,j1,j2,j3,j4,j5,_⟩:=q.mem y hy;rw[s4];exact⟨i,j,x,p,hx,k1,Nd,rfl,o?,o?,j3,j4,j5⟩
     intro y hy;rcases U?.1 hy with rfl|hy
     ·exact⟨i,x,jx _,xJ,hx,k1,s4.symm,s5.symm,s6.symm⟩
     obtain⟨j,p,j1,j2,j3⟩:=q.mem y hy;exact⟨j,p,o?,j2,j3⟩
    rcases QR with ⟨u1,u2⟩|⟨w,w1,w2,w3⟩;rw[if_neg v?];exact stop _ u2.symm rfl rfl rfl rfl rfl;rw[if_pos v?];have hwl:=(qF w3).1;refine .go (a:=Xt) (by rw[hu,w1,xd hwl];simpa[wu hwl]using w3) ?_;exact stop _ rfl rfl rfl rfl rfl rfl
   rw[if_neg k1]at SQ;rw[if_neg (by simp[k1])];have hde:e=i+1:=hd ((hP.ok x (z6 hx)).other k1).1;have:=behind [] qY ⟨rfl,fun _ _=>rfl,.nil _ _ _ _ o?,z?,v?⟩ z?;simpa using this
theorem q0f(hP:Good P): ∀(q:List Pt)(k:Nat)(m:Int),P.drop k=q->0<=m->m<=k->qJ (yM (m,(k:Int),env,lead,unit,P,ds,nm)) (fun v=>v+lC P k=m+lC P P.length):=by have hl:=hP.len;intro q;induction q with|nil=>(intro k m hk h0 h1;rw[yM.eq_1,if_neg (by simpa using yu hk)];have:=vI hk;refine .ret ?_;have:lC P k=lC P P.length:=by unfold lC;rw[a! this,a! (jx _)]);omega|cons x q ih=>intro k m hk h0 h1;obtain⟨a1,a2,a3,a4⟩:=wS hk;obtain⟨b1,_,_⟩:=drop_cons hk;have hc:=lD b1;rw[yM.eq_1,if_pos (by simpa using a1),ll o? a1];have:= @wr;exact tW
theorem zero_tot(s:qa)(pl:List Int)(st:List qq)(hs:st.length<=40000000): ∀(q:List qq)(k:Nat)(z:Bool),st.drop k=q->(z=true-> ∃x∈st,x.n=0/\x.qL=false)->
  qJ (vd (s,z,(k:Int),env,lead,unit,P,ds,nm,ns,ts,pl,st)) (fun v=>v=true-> ∃x∈st,x.n=0/\x.qL=false):=by intro q;induction q with|nil=>intro k z hk hz;rw[vd.eq_1,if_neg (by simpa using yu hk)];exact .ret hz|cons x q ih=>intro k z hk hz;obtain⟨a1,a2,a3,a4⟩:=wS hk;rw[vd.eq_1,if_pos (by simpa using a1),ll o? a1];exact tW
end
structure PB (s:qa) (st:List qq):Prop where
 len:s.length<=65536
 Pc: ∃H:Int->Int->Prop,o7 H (-1) 0 s.length 0 st/\ ∀n,¬ S? H n n
 many:0<st.length/\st.length<=257
 n: ∀x∈st,0<=x.n/\x.n<=100000000
 qR: ∀x∈st,vK x.qR<=1000000000/\(∀ o∈x.opts.l,o.length<=17592186044416)/\QX x.opts=0/\x.opts.l.length<=8192002
 free: ∃x∈st,x.qL=false
theorem PC{env:Sl qw}{lead unit:qa}(hE:B7 env lead unit)(l:Sl qD)(hl:qO (l.l.map pU)<=8192002):qJ (fN l env lead unit) (fun r=>r.2.2=0->PB r.1 r.2.1.l):=by
 unfold fN;refine .bind (Yi l o?) fun v hv=>?_;refine .tI ?_ ?_<;>intro hT;exact .ret z?;have hS:=hv hT;refine .bind (TH hE l hl hS (-1)) fun k hk=>?_;obtain⟨e1,e2,e3,⟨t,t1,t2,t3⟩,hI,_⟩:=hk;obtain⟨k1,k2,k3,r,kd,kn⟩:=k;simp only at e1 e2 e3 t1 hI;subst e1 e2 e3;simp only[List.nil_append]at t1;subst t1;simp only[List.length_nil]at t2;refine .bind (HD r kd kn t2 hI o?) fun P hP=>?_;refine .bind (TQ P kd kn hP) fun w hw=>?_;refine .tI ?_ ?_<;>intro hT;exact .ret z?;have hN:=hw hT;have hPl:=hP.len;have Lr:=q0f (env:=k1) (lead:=k2) (unit:=k3) (ds:=kd) (nm:=kn) hP P 0 0 rfl o? o?;refine .bind Lr fun m hm=>?_;refine .tI ?_ ?_<;>intro hT;exact .ret z?;have hm256:=hT;have hcnt:lC P P.length<=256:=by (have:lC P 0=0:=by simp[lC]);omega
 have hM0:ba P [] []:=⟨rfl,z?,z?,fun n t h=>by obtain⟨k,h,_⟩:=h;simp at h⟩;have eB:=row1_tot (env:=k1) (lead:=k2) (unit:=k3) (ds:=kd) (nm:=kn) hP hP.chain [] [] [] z? hM0 (fun j y ns ts h1 h2 h3 h4=>
  J5 hP hN j y h3 ns ts h4 fun _=>text_tot hP hN _ y.n rfl ns ts h4)
 have C1:qJ (mU (0:Int) (P.length:Int) k1 k2 k3 P kd kn) (fun v=>v.2.1=0-> ∃ns ts,v=(v.1,0,k1,k2,k3,P,kd,kn,ns,ts)/\ba P ns ts/\mn P ns ts 0 P.length v.1/\v.1.length<=65536):=by unfold mU;refine .bind eB fun w hw=>?_;rcases w with w|w;exact .ret fun h=>absurd h hw;obtain⟨a,b,t,rfl,w2,w3,w4,w5⟩:=hw;exact .ret fun _=>⟨a,b,z?,by simpa using w2,by simpa using w4,by simpa using w5⟩
 refine .bind C1 fun y hy=>?_;refine .tI ?_ ?_<;>intro hT;exact .ret fun h=>absurd h hT;obtain⟨ns,ts,e,y2,y3,y4⟩:=hy hT;rw[e];simp only;generalize y.1=s at y3 y4 |-;refine .zx o? ?_;refine .zx (by simp only[qg,zO,decide_eq_true_eq];omega) ?_;have lO:=S6 (env:=k1) (lead:=k2) (unit:=k3) (ds:=kd) (nm:=kn) hP y2 hP.chain 0 s [] (List.replicate P.length 0) (-1) y3 o? o? (jx _) z? z? (.inl ⟨rfl,rfl⟩);have hst2:qJ (bt (0:Int) (P.length:Int) (0:Int) k1 k2 k3 (List.replicate P.length 0) P kd kn ns ts) (fun v=> ∃l pl,v=((0:Int)+s.length,k1,k2,k3,pl,P,kd,kn,ns,ts,[]++l)/\O2 P 0 0 P.length s [] (List.replicate P.length 0) (-1) l pl):=by unfold bt;exact .bind lO fun v hv=> .ret hv
 rw[show (P.length:Int).toNat=P.length by simp];refine .bind hst2 fun z hz=>?_;obtain⟨st,pl,rfl,q⟩:=hz;simp only[List.nil_append];have hql:=q.len;have hc0:lC P 0=0:=by simp[lC]
 have hnn: ∀x∈st,0<=x.n/\x.n<=100000000:=by intro x hx;obtain⟨j,p,_,_,j3,_,j5,_⟩:=q.mem x hx;rw[<- j5];exact hP.n p (z6 j3)
 have hff: ∀x∈st,vK x.qR<=1000000000/\(∀ o∈x.opts.l,o.length<=17592186044416)/\QX x.opts=0/\x.opts.l.length<=8192002:=by intro x hx;obtain⟨j,p,_,_,j3,_,_,j6,j7⟩:=q.mem x hx;have:=hP.ok p (z6 j3);rw[<- j6,<- j7];exact⟨this.qR,this.ol⟩
 have Fz:o7 (Holds P) (-1) 0 s.length 0 st:=by have:=q.Pc;simpa using this
 refine .bind (zero_tot s pl st o? st 0 false rfl z?) fun z hz=>?_;refine .tI ?_ ?_<;>intro hT;refine .zx (by simp only[qg,zO,decide_eq_true_eq];omega) ?_;refine .ret fun _=>⟨y4,⟨Holds P,Fz.Gj _ rfl rfl rfl,hN⟩,v?,fun x hx=>?_,fun x hx=>?_,⟨_,List.mem_append_right _ (List.mem_singleton.2 rfl),rfl⟩⟩;rcases List.mem_append.1 hx with hx|hx;exact hnn x hx;simp only[List.mem_singleton]at hx;subst hx;simp;rcases List.mem_append.1 hx with hx|hx;exact hff x hx;simp only[List.mem_singleton]at hx;subst hx;refine⟨?_,by simp[dJ]⟩;simp[vK,yo,dJ,Zt,qO];obtain⟨x,hx,_,h0⟩:=hz hT;refine .ret fun _=>⟨y4,⟨Holds P,Fz,hN⟩,⟨List.length_pos_of_mem hx,u?⟩,hnn,hff,⟨x,hx,h0⟩⟩
namespace Xr
theorem LP{x z:qq}{qz rest:List qq}{k:Nat}(h:(x::(qz++rest))[k]? =some z):(k=0/\z=x)\/(∃ i,k=i+1/\qz[i]? =some z)\/(∃ i,k=i+1+qz.length/\rest[i]? =some z):=by cases k with|zero=>simp at h;exact .inl ⟨rfl,h.symm⟩|succ k=>simp only[i?]at h;by_cases hk:k<qz.length;rw[r? hk]at h;exact .inr (.inl ⟨k,rfl,h⟩);rw[J? o?]at h;exact .inr (.inr ⟨k-qz.length,o?,h⟩)
theorem idx_k{x z:qq}{qz rest:List qq}{i:Nat}(h:qz[i]? =some z):(x::(qz++rest))[i+1]? =some z:=by have hi:=(qF h).1;simp only[i?];rw[r? hi];exact h
theorem idx_r{x z:qq}{qz rest:List qq}{i:Nat}(h:rest[i]? =some z):(x::(qz++rest))[i+1+qz.length]? =some z:=by rw[show i+1+qz.length=(qz.length+i)+1 by omega];simp only[i?];rw[J? o?];simpa using h
structure LayIn (up lo hi:Int) (b:Nat) (l:List qq) (k:Nat) (x:qq):Prop where
 lo:lo<=x.span.qB
 le:x.span.qB<=x.span.to
 hi:x.span.to<=hi
 ins:x.up=up\/ ∃(q:Nat)(y:qq),x.up=((b+q:Nat):Int)/\q<k/\l[q]? =some y/\y.span.qB<=x.span.qB/\x.span.to<=y.span.to
 B3: ∀(j:Nat)(y:qq),j<k->l[j]? =some y->y.up=x.up->y.span.to<=x.span.qB
 pre: ∀(j:Nat)(y:qq),j<k->x.up<((b+j:Nat):Int)->l[j]? =some y->x.up<=y.up
theorem LayX.kU{H:Int->Int->Prop}{up lo hi:Int}{b:Nat}{l:List qq}(h:o7 H up lo hi b l):up<b-> ∀(k:Nat)(x:qq),l[k]? =some x->LayIn up lo hi b l k x:=by induction h with|nil=>intro _ k x hx;simp at hx|cons up lo hi b x qz rest hu h1 h2 hH hk hr GK Ki=>(intro hub k z hz;have GK:=GK o?;have Ki:=Ki o?;have pf: ∀(i:Nat)(y:qq),qz[i]? =some y->i<qz.length:=fun i y h=>(qF h).1;have hrle:=hr.le;have kup: ∀(i:Nat)(y:qq),qz[i]? =some y->(b:Int)<=y.up/\y.up<b+1+qz.length:=by intro i y h;have:=pf i y h;rcases(GK i y h).ins with e|⟨q,w,e,q1,_⟩<;>omega);(have rup: ∀(i:Nat)(y:qq),rest[i]? =some y->y.up=up\/(b:Int)+1+qz.length<=y.up:=by intro i y h;rcases(Ki i y h).ins with e|⟨q,w,e,q1,_⟩;exact .inl e;right;omega);rcases LP hz with ⟨rfl,rfl⟩|⟨i,rfl,hi⟩|⟨i,rfl,hi⟩;exact⟨h1,h2,hrle,.inl hu,fun j y hj=>o?,fun j y hj=>o?⟩;have q:=GK i z hi;refine⟨by have:=q.lo;omega,q.le,by have:=q.hi;omega, ?_, ?_, ?_⟩;rcases q.ins with e|⟨p,y,e,p1,p2,p3⟩;exact .inr ⟨0,x,by simpa using e,o?,z?,q.lo,q.hi⟩;exact .inr ⟨p+1,y,by rw[e];omega,o?,idx_k p2,p3⟩;intro j y hj hy QR;rcases LP hy with ⟨rfl,rfl⟩|⟨i',rfl,yw⟩|⟨i',rfl,yw⟩;have:=kup i z hi;omega;exact q.B3 i' y o? yw QR;have:=pf i z hi;omega;intro j y hj hz2 hy;have hzu:=kup i z hi;rcases LP hy with ⟨rfl,rfl⟩|⟨i',rfl,yw⟩|⟨i',rfl,yw⟩;omega;exact q.pre i' y o? o? yw;have:=pf i z hi;omega;have q:=Ki i z hi;refine⟨by have:=q.lo;omega,q.le,q.hi, ?_, ?_, ?_⟩;rcases q.ins with e|⟨p,y,e,p1,p2,p3⟩;exact .inl e;exact .inr ⟨p+1+qz.length,y,by rw[e];omega,o?,idx_r p2,p3⟩;intro j y hj hy QR;rcases LP hy with ⟨rfl,rfl⟩|⟨i',rfl,yw⟩|⟨i',rfl,yw⟩;exact q.lo;have a1:=kup i' y yw;have a2:=rup i z hi;omega;exact q.B3 i' y o? yw QR;intro j y hj hz2 hy;have hzu:=rup i z hi;rcases LP hy with ⟨rfl,rfl⟩|⟨i',rfl,yw⟩|⟨i',rfl,yw⟩;omega;have a1:=kup i' y yw;have a2:=pf i' y yw;omega;exact q.pre i' y o? o? yw
def Zs(a:Int)(x:qq):qq:={ x with span:=⟨x.span.qB+a,x.span.to+a⟩ }
theorem LayX.shift{H:Int->Int->Prop}{up lo hi:Int}{b:Nat}{l:List qq}(h:o7 H up lo hi b l)(a:Int):o7 H up (lo+a) (hi+a) b (l.map (Zs a)):=by induction h with|nil up lo hi b h=>exact .nil _ _ _ _ o?|cons up lo hi b x qz rest hu h1 h2 hH hk hr GK Ki=>rw[s?,Y!];refine .cons up (lo+a) (hi+a) b (Zs a x) _ _ hu ?_ ?_ (fun y hy=>?_) GK ?_;simp only[Zs];omega;simp only[Zs];omega;obtain⟨z,hz,rfl⟩:=N?.1 hy;exact hH z hz;simp only[List.length_map];exact Ki
theorem lay_may{H:Int->Int->Prop}{i:qj}{n:Int}(h:o7 H (-1) i.span.qB i.span.to 0 i.stops.l)(h0:0<=i.span.qB)(h1:i.span.to<=n):UH i n:=by have dK:=fun k x hx=>LayX.kU h o? k x hx;have xJ: ∀{k:Nat}{x:qq},i.stops.l[k]? =some x->k<i.stops.l.length:=fun h=>(qF h).1;refine⟨⟨h0,Go.Proofs.YtnojdepmnnebnaaGreat.o7.le h,h1⟩,fun k x hx=>?_,fun k x hx=>(dK k x hx).le,fun k x hx _=>⟨(dK k x hx).lo,(dK k x hx).hi⟩,fun k x hx p y hp hy=>?_,fun k x hx=>(dK k x hx).B3,fun k x hx q y hq hu hy=>(dK k x hx).pre q y hq o? hy⟩;rcases(dK k x hx).ins with e|⟨q,y,e,q1,_⟩<;>omega;rcases(dK k x hx).ins with e|⟨q,z,e,q1,q2,q3,q4⟩;omega;have:q=p:=o?;subst this;rw[hy]at q2;cases q2;exact⟨q3,q4⟩
end Xr
end Go.Proofs.YtnojdepmnnebnaaGreat
