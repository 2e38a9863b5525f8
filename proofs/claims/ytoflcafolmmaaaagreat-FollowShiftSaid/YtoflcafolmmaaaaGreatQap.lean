/-
  What is made lies as an instance that may be.
-/
import Derived.Test.YtoflcafolmmaaaaGreatQao
import Derived.Test.YtoflcafolmmaaaaGreatQam
open Go.IntKind renaming i64->q?
open Int renaming toNat_natCast->c?,add_assoc->o_
open List renaming length_cons->g?,mem_append->m?,getElem?_append_left->p?,length_append->t?,map_cons->s?,mem_singleton->d?,length_nil->e?,getElem?_cons_succ->l?,getElem?_append_right->J?,mem_cons->U?,mem_map->N?,nodup_append->x!,nodup_cons->d!,take_of_length_le->a!,map_append->Y!,getElem?_set->N!,filter_cons->T!,getElem?_set_self->g_,append_assoc->X_,take_sublist_take_left->T_,Sublist->q1n
open Nat renaming strongRecOn->r?,zero_le->B!,eq_or_lt_of_le->q0r
open Relation renaming TransGen->T?
set_option linter.unusedSimpArgs false
set_option linter.unusedVariables false
namespace Go.Proofs.YtoflcafolmmaaaaGreat
open Go Go.Gm
section
variable {env:Sl qv} {lead unit:qa}
theorem oV.trans{up:Int}{r:List Pt}{ns:List qa}{m1 m2:Nat}{v w:Sl qv×qa×qa×List Pt×List Int×List qa}(h1:oV env lead unit up r ns m1 v)(h2:oV env lead unit up v.2.2.2.1 v.2.2.2.2.2 m2 w):oV env lead unit up r ns (m1+m2) w:=by obtain⟨t1,a1,a2,a3⟩:=h1.ex;obtain⟨t2,b1,b2,b3⟩:=h2.ex;refine⟨h2.e1,h2.e2,h2.e3,⟨t1++t2,by rw[b1,a1,X_],a2.app ?_,v?⟩,h2.inv,Nat.le_trans h1.ns h2.ns⟩;rw[a1]at b2;simpa using b2
theorem oV.len{up:Int}{r:List Pt}{ns:List qa}{m:Nat}{v:Sl qv×qa×qa×List Pt×List Int×List qa}(h:oV env lead unit up r ns m v):v.2.2.2.1.length<=r.length+2*m:=by obtain⟨t,a1,_,a3⟩:=h.ex;rw[a1];simp;omega
theorem eU{up:Int}{r:List Pt}{ds:List Int}{ns:List qa}(hI:sq r ds ns){x:Pt}(hu:x.up=up)(hd:x.xW=false)(he:x.end_=((r.length+1:Nat):Int))(hp:E6 ns.length x){m:Nat}(hm:1<=m):
  oV env lead unit up r ns m (env,lead,unit,r++[x],ds,ns):=
 ⟨rfl,rfl,rfl,⟨_,rfl,tn.one _ hu he,v?⟩,hI.put _ hp hd,jv _⟩
theorem YM(n:Int)(t:qa)(ht:t.length<=8192002)(up:Int)(r:List Pt)(ds:List Int)(ns:List qa)(hr:r.length<=50000000)(hI:sq r ds ns)(ms:List qa)(hms:ns.length<=ms.length/\ms.length<=ns.length+1)(hn: -(ms.length:Int)<=n/\n<0):
  qJ (yg ((1:Int),([]:qa),n,true,false,(0:Int),([]:qa),false,(⟨true,([]:List qV)⟩:Sl qV),(0:Int),(0:Int),false,(⟨true,([]:List qE)⟩:Sl qE),(⟨true,([]:List zs)⟩:Sl zs),false,false,(⟨true,([]:List qa)⟩:Sl qa),up,true,env,lead,unit,[(qC.mk (0:Int) t (0:Int) false false (zn.mk (qE.mk (0:Int) ([]:qa) false (⟨true,[]⟩:(Sl qV)) (0:Int) (0:Int) false (⟨true,[]⟩:(Sl qE))) (⟨true,[]⟩:(Sl zs)) false false) (⟨true,[]⟩:(Sl qa)) (⟨true,[]⟩:(Sl qC)))],r,ds,ms))
   (fun v=> ∃r' Sa,v= .inl (r',Sa)/\oV env lead unit up r ns 1 (env,lead,unit,r',Sa,ms)):=by
 have Sp:=hI.dl;have hnl:=hI.nl;rw[yg.eq_1];rw[if_pos z?];refine .bind (tJ n ds o?) fun v hv=>?_;refine .go (a:=[]) (by rw[wM.eq_1];simp) ?_;have hp: ∀e,E6 ms.length (qc.mk (1:Int) ([]:qa) n (!v) false false (zn.mk (qE.mk (0:Int) ([]:qa) false (⟨true,([]:List qV)⟩:Sl qV) (0:Int) (0:Int) false (⟨true,([]:List qE)⟩:Sl qE)) (⟨true,([]:List zs)⟩:Sl zs) false false) (⟨([]:List qa).isEmpty,[]⟩:(Sl qa)) up e):=fun e=>
  ⟨u?,z?,⟨hn.1,u?⟩,by have:=UQ;unfold da Q8 at this;simp only[this];omega,fun _=>rfl,fun _=>rfl,z?,z?,by simp[dD]⟩
 have hq: ∀e,E6 ms.length (qc.mk (0:Int) t (0:Int) false false false (zn.mk (qE.mk (0:Int) ([]:qa) false (⟨true,([]:List qV)⟩:Sl qV) (0:Int) (0:Int) false (⟨true,([]:List qE)⟩:Sl qE)) (⟨true,([]:List zs)⟩:Sl zs) false false) (⟨true,([]:List qa)⟩:(Sl qa)) (r.length:Int) e):=fun e=>
  ⟨u?,z?,⟨u?,u?⟩,by have:=UQ;unfold da Q8 at this;simp only[this];omega,z?,fun _=>rfl,z?,u?,by simp[dD]⟩
 refine .bind (me _ env lead unit r ds ms o?) fun y hy=>?_;subst hy;refine .tI ?_ ?_<;>intro hT;have Z7:=hT;exact .ret ⟨_,_,rfl,⟨rfl,rfl,rfl,⟨_,rfl,tn.one _ rfl rfl,z?⟩,hI.putN hms _ (hp _) (by simp[Z7]),hms.1⟩⟩
 have Z7:=hT;refine .zz (by simp only[qg,zQ,decide_eq_true_eq];omega) ?_;rw[if_pos rfl];refine .go (a:=(qC.mk (0:Int) t (0:Int) false false (zn.mk (qE.mk (0:Int) ([]:qa) false (⟨true,[]⟩:(Sl qV)) (0:Int) (0:Int) false (⟨true,[]⟩:(Sl qE))) (⟨true,[]⟩:(Sl zs)) false false) (⟨true,[]⟩:(Sl qa)) (⟨true,[]⟩:(Sl qC)))) rfl ?_;have hI2:=hI.defineN hms _ (hp ((r.length+1:Nat):Int)) (by simp[Z7]) (fun h=>by have:=hv.2 h;simp_all);refine .bind (me _ env lead unit _ _ ms v?) fun y hy=>?_;simp only[t?,g?,e?,Nat.zero_add]at hy;subst hy;have hI3:=hI2.put _ (hq ((r.length+1+1:Nat):Int)) rfl;rw[X_]at hI3 |-;simp only[List.cons_append,List.nil_append]at hI3 |-;refine .go (ZM _ _ _) ?_;rw[c?,Kf];refine .ret ⟨_,_,rfl,⟨rfl,rfl,rfl,⟨_,rfl, ?_,z?⟩,hI3.J7 _ rfl,hms.1⟩⟩;have:=tn.cons (up:=up) (b:=r.length) (qc.mk (1:Int) ([]:qa) n (!v) false false (zn.mk (qE.mk (0:Int) ([]:qa) false (⟨true,([]:List qV)⟩:Sl qV) (0:Int) (0:Int) false (⟨true,([]:List qE)⟩:Sl qE)) (⟨true,([]:List zs)⟩:Sl zs) false false) (⟨([]:List qa).isEmpty,[]⟩:(Sl qa)) up ((r.length+1+1:Nat):Int))
  [qc.mk (0:Int) t (0:Int) false false false (zn.mk (qE.mk (0:Int) ([]:qa) false (⟨true,([]:List qV)⟩:Sl qV) (0:Int) (0:Int) false (⟨true,([]:List qE)⟩:Sl qE)) (⟨true,([]:List zs)⟩:Sl zs) false false) (⟨true,([]:List qa)⟩:(Sl qa)) (r.length:Int) ((r.length+1+1:Nat):Int)] [] rfl z? (fun h=>by simp[Z7]at h) (fun h=>absurd rfl h) (tn.one _ rfl rfl) (.nil _ _)
 have e2:(r.length:Int)+2=(r.length:Int)+1+1:=o?;simpa[e2]using this
theorem Yo(hE:GI env lead unit): ∀(m:Nat)(l:Sl qC),qO (l.l.map pO)<=m->m<=8192002->Ki l-> ∀(up:Int)(r:List Pt)(ds:List Int)(ns:List qa),r.length+2*qO (l.l.map pO)<=40000000->sq r ds ns->
  qJ (zR (l,up,env,lead,unit,r,ds,ns)) (oV env lead unit up r ns (qO (l.l.map pO))):=by
 intro m;induction m using r? with
 |_ m ih=>
 intro l hl hm hS up r ds ns hr hI;have hlen:=zZ cf l.l;have key: ∀(q:List qC)(k:Nat)(r:List Pt)(ds:List Int)(ns:List qa),l.l.drop k=q->r.length+2*qO (q.map pO)<=40000000->sq r ds ns->
   qJ (zi (l,up,(k:Int),env,lead,unit,r,ds,ns)) (oV env lead unit up r ns (qO (q.map pO))):=by
  intro q;induction q with
  |nil=>
   intro k r ds ns hk hr hI;rw[zi.eq_1,if_neg (by simpa using yq hk)];exact .ret ⟨rfl,rfl,rfl,⟨[],z?,.nil _ _,z?⟩,hI,jv _⟩
  |cons x q ihq=>
   intro k r ds ns hk hr hI;obtain⟨a1,a2,a3,a4⟩:=wV hk;have hx:=xK (f:=pO) a4;have hxw:=nG x;have Fj:=cf x;simp only[s?,qO]at hr |-;have hSx:=hS x a4;have next: ∀v:Sl qv×qa×qa×List Pt×List Int×List qa,oV env lead unit up r ns (pO x) v->
     qJ (zi (l,up,((k+1:Nat):Int),v.1,v.2.1,v.2.2.1,v.2.2.2.1,v.2.2.2.2.1,v.2.2.2.2.2)) (oV env lead unit up r ns (pO x+qO (q.map pO))):=by
    intro v hv;have:=hv.len;rw[hv.e1,hv.e2,hv.e3];exact(ihq (k+1) _ _ _ a3 o? hv.inv).mono fun w hw=>hv.trans hw
   rw[zi.eq_1,if_pos (by simpa using a1),lg o? a1];refine .go a2 ?_;refine .tI ?_ ?_<;>intro hT
   ·refine .bind (Xw x.text lead unit o? hE.lead hE.unit) fun t ht=>?_;refine .bind (me _ env lead unit r ds ns o?) fun y hy=>?_;subst hy;refine next (env,lead,unit,_,ds,ns) ?_
    refine eU hI ?_ ?_ ?_ ?_ Fj;rfl;rfl;rfl;exact⟨u?,z?,⟨u?,u?⟩,by have:=UQ;unfold da Q8 at this;simp only[this];omega,z?,fun _=>rfl,z?,ht,by simp[dD]⟩
   have k0:=hT;refine .tI ?_ ?_<;>intro hT
   ·have k3:=hT;refine .bind (Yh x.text env hE.len) fun v hv=>?_;have Le:v.1.length<=1048576:=by
     rcases hv with ⟨p,p1,p2⟩|⟨p1,_⟩
     ·rw[p2];exact hE.val p p1
     rw[p1];simp
    refine .tI ?_ ?_<;>intro hT
    ·refine .bind (me _ env lead unit r ds ns o?) fun y hy=>?_;subst hy;refine next (env,lead,unit,_,ds,ns) ?_
     refine eU hI ?_ ?_ ?_ ?_ Fj;rfl;rfl;rfl;exact⟨u?,z?,⟨u?,u?⟩,u?,z?,fun _=>rfl,fun _=>Le,u?,by simp[dD]⟩
    refine .tI ?_ ?_<;>intro hT
    ·refine .bind (ih (qO (x.qz.l.map pO)) o? x.qz (jv _) o? (by cases hSx;assumption) up r ds ns o? hI) fun v hv=>?_;refine next v ⟨hv.e1,hv.e2,hv.e3, ?_,hv.inv,hv.ns⟩
     obtain⟨t,t1,t2,t3⟩:=hv.ex;exact⟨t,t1,t2,o?⟩
    refine .bind (Jk x.text) fun v _=>?_;refine .tI ?_ ?_<;>intro hT
    ·refine .bind (me _ env lead unit r ds ns o?) fun y hy=>?_;subst hy;refine next (env,lead,unit,_,ds,ns) ?_
     refine eU hI ?_ ?_ ?_ ?_ Fj;rfl;rfl;rfl;exact⟨u?,z?,⟨u?,u?⟩,u?,z?,fun _=>rfl,z?,z?,by simp[dD]⟩
    have hnl:=hI.nl;refine .bind (Jn x.text r ds ns o?) fun w hw=>?_;refine .bind (YM w.1 x.text o? up r ds ns o? hI w.2 ⟨hw.1,hw.2.1⟩ ⟨hw.2.2.1,hw.2.2.2⟩) fun y hy=>?_;obtain⟨r',Sa,rfl,hy⟩:=hy;refine next (env,lead,unit,r',Sa,w.2) ⟨hy.e1,hy.e2,hy.e3, ?_,hy.inv,hy.ns⟩
    obtain⟨t,t1,t2,t3⟩:=hy.ex;exact⟨t,t1,t2,o?⟩
   have k3:=hT;have hkd:0<=x.kind/\x.kind<=3:=by cases hSx;assumption
   refine .bind (WX x o? hSx o? up hE r ds ns o? hI ?_) fun v hv=>?_
   ·intro up r ds ns hr hI;exact ih (qO (x.qz.l.map pO)) o? x.qz (jv _) o? (by cases hSx;assumption) up r ds ns o? hI
   exact next v hv
 rw[zR.eq_1];exact .bind (key l.l 0 r ds ns rfl hr hI) fun v hv=> .ret hv
theorem Tg(hE:GI env lead unit)(l:Sl qC)(hl:qO (l.l.map pO)<=8192002)(hS:Ki l)(up:Int):qJ (nU l up env lead unit) (oV env lead unit up [] [] (qO (l.l.map pO))):=by
 have hlen:=zZ cf l.l;have key: ∀(q:List qC)(k:Nat)(r:List Pt)(ds:List Int)(ns:List qa),l.l.drop k=q->r.length+2*qO (q.map pO)<=40000000->sq r ds ns->
   qJ (zB (l,up,(k:Int),env,lead,unit,r,ds,ns)) (oV env lead unit up r ns (qO (q.map pO))):=by
  intro q;induction q with
  |nil=>
   intro k r ds ns hk hr hI;rw[zB.eq_1,if_neg (by simpa using yq hk)];exact .ret ⟨rfl,rfl,rfl,⟨[],z?,.nil _ _,z?⟩,hI,jv _⟩
  |cons x q ihq=>
   intro k r ds ns hk hr hI;obtain⟨a1,a2,a3,a4⟩:=wV hk;have hx:=xK (f:=pO) a4;have hxw:=nG x;have Fj:=cf x;simp only[s?,qO]at hr |-;have hSx:=hS x a4;have next: ∀v:Sl qv×qa×qa×List Pt×List Int×List qa,oV env lead unit up r ns (pO x) v->
     qJ (zB (l,up,((k+1:Nat):Int),v.1,v.2.1,v.2.2.1,v.2.2.2.1,v.2.2.2.2.1,v.2.2.2.2.2)) (oV env lead unit up r ns (pO x+qO (q.map pO))):=by
    intro v hv;have:=hv.len;rw[hv.e1,hv.e2,hv.e3];exact(ihq (k+1) _ _ _ a3 o? hv.inv).mono fun w hw=>hv.trans hw
   rw[zB.eq_1,if_pos (by simpa using a1),lg o? a1];refine .go a2 ?_;refine .tI ?_ ?_<;>intro hT
   ·refine .bind (Xw x.text lead unit o? hE.lead hE.unit) fun t ht=>?_;refine .bind (me _ env lead unit r ds ns o?) fun y hy=>?_;subst hy;refine next (env,lead,unit,_,ds,ns) ?_
    refine eU hI ?_ ?_ ?_ ?_ Fj;rfl;rfl;rfl;exact⟨u?,z?,⟨u?,u?⟩,by have:=UQ;unfold da Q8 at this;simp only[this];omega,z?,fun _=>rfl,z?,ht,by simp[dD]⟩
   have k0:=hT;refine .tI ?_ ?_<;>intro hT
   ·have k3:=hT;refine .bind (Yh x.text env hE.len) fun v hv=>?_;have Le:v.1.length<=1048576:=by
     rcases hv with ⟨p,p1,p2⟩|⟨p1,_⟩
     ·rw[p2];exact hE.val p p1
     rw[p1];simp
    refine .tI ?_ ?_<;>intro hT
    ·refine .bind (me _ env lead unit r ds ns o?) fun y hy=>?_;subst hy;refine next (env,lead,unit,_,ds,ns) ?_
     refine eU hI ?_ ?_ ?_ ?_ Fj;rfl;rfl;rfl;exact⟨u?,z?,⟨u?,u?⟩,u?,z?,fun _=>rfl,fun _=>Le,u?,by simp[dD]⟩
    refine .tI ?_ ?_<;>intro hT
    ·refine .bind (Yo hE (qO (x.qz.l.map pO)) x.qz (jv _) o? (by cases hSx;assumption) up r ds ns o? hI) fun v hv=>?_;refine next v ⟨hv.e1,hv.e2,hv.e3, ?_,hv.inv,hv.ns⟩
     obtain⟨t,t1,t2,t3⟩:=hv.ex;exact⟨t,t1,t2,o?⟩
    refine .bind (Jk x.text) fun v _=>?_;refine .tI ?_ ?_<;>intro hT
    ·refine .bind (me _ env lead unit r ds ns o?) fun y hy=>?_;subst hy;refine next (env,lead,unit,_,ds,ns) ?_
     refine eU hI ?_ ?_ ?_ ?_ Fj;rfl;rfl;rfl;exact⟨u?,z?,⟨u?,u?⟩,u?,z?,fun _=>rfl,z?,z?,by simp[dD]⟩
    have hnl:=hI.nl;refine .bind (Jn x.text r ds ns o?) fun w hw=>?_;refine .bind (YM w.1 x.text o? up r ds ns o? hI w.2 ⟨hw.1,hw.2.1⟩ ⟨hw.2.2.1,hw.2.2.2⟩) fun y hy=>?_;obtain⟨r',Sa,rfl,hy⟩:=hy;refine next (env,lead,unit,r',Sa,w.2) ⟨hy.e1,hy.e2,hy.e3, ?_,hy.inv,hy.ns⟩
    obtain⟨t,t1,t2,t3⟩:=hy.ex;exact⟨t,t1,t2,o?⟩
   have k3:=hT;have hkd:0<=x.kind/\x.kind<=3:=by cases hSx;assumption
   refine .bind (WX x o? hSx o? up hE r ds ns o? hI ?_) fun v hv=>?_
   ·intro up r ds ns hr hI;exact Yo hE (qO (x.qz.l.map pO)) x.qz (jv _) o? (by cases hSx;assumption) up r ds ns o? hI
   exact next v hv
 unfold nU;exact .bind (key l.l 0 [] [] [] rfl v? ⟨z?,by simp[defs],by simp[defs],z?,z?⟩) fun v hv=> .ret hv
end
set_option maxHeartbeats 1000000
def core(x:Pt):Pt:={ x with n:=0,first:=false }
theorem tn.ZV{up:Int}{b:Nat}{l:List Pt}(h:tn up b l): ∀{l' :List Pt},l'.map core=l.map core->tn up b l' :=by induction h with|nil up b=>intro l' h;simp at h;subst h;exact .nil _ _|cons up b x qz rest hu he hd ho hk _ Gl K6=>intro l' h;rw[s?,Y!]at h;cases l' with|nil=>simp at h|cons y t=>(simp only[s?,List.cons.injEq]at h;obtain⟨h1,h2⟩:=h;obtain⟨k',r',rfl,e1,e2⟩:=List.map_eq_append_iff.1 h2;have e3:k'.length=qz.length:=by simpa using congrArg List.length e1);have e4:y.up=x.up:=(congrArg (·.up) h1:(core y).up=(core x).up);have e5:y.end_=x.end_:=(congrArg (·.end_) h1:(core y).end_=(core x).end_);have e6:y.xW=x.xW:=(congrArg (·.xW) h1:(core y).xW=(core x).xW);have e7:y.opts=x.opts:=(congrArg (·.opts) h1:(core y).opts=(core x).opts);refine .cons up b y k' r' (e4.trans hu) (by rw[e5,he,e3]) (fun h=>?_) (fun h=>?_) (Gl e1) (by rw[e3];exact K6 e2);exact tW;exact tW
theorem tn.end_{up:Int}{b:Nat}{l:List Pt}(h:tn up b l): ∀(i:Nat)(x:Pt),l[i]? =some x->((b+i:Nat):Int)<x.end_/\x.end_<=((b+l.length:Nat):Int):=by induction h with|nil up b=>intro i x h;simp at h|cons up b x qz rest hu he hd ho hk _ Gl K6=>intro i y h;exact tW
structure GO (x:Pt):Prop where
 kind:0<=x.kind/\x.kind<=2
 other:x.kind≠1->x.xW=false/\x.opts.l=[]
 qR:vq x.qR<=1000000000
 dt:x.xW=true->x.qL=false
 od:x.xW=false->x.opts.l=[]
 tt:x.qL=true->x.text.length<=1048576
 tl:x.text.length<=17592186044416
 ol:(∀ o∈x.opts.l,o.length<=17592186044416)/\QP x.opts=0/\x.opts.l.length<=8192002
structure Good (P:List Pt):Prop where
 seg:tn (-1) 0 P
 ok: ∀x∈P,GO x
 n: ∀x∈P,0<=x.n/\x.n<=100000000
 un:(defs P).Nodup
 len:P.length<=40000000
theorem GO.ZV{x y:Pt}(h:GO x)(e:core y=core x):GO y:=by have e1:y.kind=x.kind:=(congrArg (·.kind) e:(core y).kind=(core x).kind);have e2:y.xW=x.xW:=(congrArg (·.xW) e:(core y).xW=(core x).xW);have e3:y.opts=x.opts:=(congrArg (·.opts) e:(core y).opts=(core x).opts);have e4:y.qR=x.qR:=(congrArg (·.qR) e:(core y).qR=(core x).qR);have e5:y.qL=x.qL:=(congrArg (·.qL) e:(core y).qL=(core x).qL);have e6:y.text=x.text:=(congrArg (·.text) e:(core y).text=(core x).text);exact⟨e1 ▸ h.kind,by rw[e1,e2,e3];exact h.other,e4 ▸ h.qR,by rw[e2,e5];exact h.dt,by rw[e2,e3];exact h.od,by rw[e5,e6];exact h.tt,e6 ▸ h.tl,by rw[e3];exact h.ol⟩
theorem LF{l l' :List Pt}(h:l'.map core=l.map core){y:Pt}(hy:y∈l'): ∃x∈l,core y=core x:=by
 have:core y∈l.map core:=by rw[<- h];exact N?.2 ⟨y,hy,rfl⟩
 exact tW
section
variable {env:Sl qv} {lead unit:qa}
theorem LZ(r:List Pt)(ds:List Int)(ns:List qa)(hl:r.length<=40000000)(hn: ∀x∈r,x.n<=9999): ∀(q:List Pt)(k:Nat)(m:Int),r.drop k=q->0<=m->m<=9999->(∀ i x,i<k->r[i]? =some x->x.n<=m)->
  qJ (jA (m,(k:Int),env,lead,unit,r,ds,ns)) (fun v=>0<=v/\v<=9999/\ ∀x∈r,x.n<=v):=by intro q;induction q with|nil=>intro k m hk h0 h1 hm;rw[jA.eq_1,if_neg (by simpa using yq hk)];refine .ret ⟨h0,h1,fun x hx=>?_⟩;obtain⟨i,hi⟩:=kh hx;have:=vJ hk;exact hm i x (by have:=(qF hi).1;omega) hi|cons x q ih=>intro k m hk h0 h1 hm;obtain⟨a1,a2,a3,a4⟩:=wV hk;obtain⟨b1,_,_⟩:=drop_cons hk;have hx:=hn x a4;rw[jA.eq_1,if_pos (by simpa using a1),lg o? a1];refine .go a2 ?_;refine ih (k+1) _ a3 (by split<;>omega) (by split<;>omega) ?_;intro i y hi hy;by_cases h:i=k;exact tW;have:=hm i y o? hy;split<;>omega
def HL(m n:Int):Int:=if n<0 then m-n else n
def Xa(m:Int)(x:Pt):Pt:={ x with n:=HL m x.n }
theorem ren_tot(ds:List Int)(ns:List qa)(m:Int)(h0:0<=m)(h1:m<=9999): ∀(B A:List Pt),(A++B).length<=40000000->(∀ x∈B,-40000000<=x.n)->
  qJ (xZ (m,(A.length:Int),env,lead,unit,A++B,ds,ns)) (fun v=>v=A++B.map (Xa m)):=by intro B;induction B with|nil=>intro A hl hn;rw[xZ.eq_1,if_neg z?];exact .ret rfl|cons x B ih=>intro A hl hn;have hx:=hn x z?;rw[xZ.eq_1,if_pos v?];refine .go (ZM _ _ _) ?_;simp only[t?,g?]at hl;rw[wr (n:=(A.length:Int)+1) o? o?];have e:A++(x::B).map (Xa m)=(A++[Xa m x])++B.map (Xa m):=z?;have e2:((A.length:Int)+1)=((A++[Xa m x]).length:Int):=z?;rw[e];refine .tI ?_ ?_<;>intro hT;(rw[c?,Kf,wr (n:=m-x.n) o? o?,e2];have e3:A++(qc.mk x.kind x.text (m-x.n) x.xW x.first x.qL x.qR x.opts x.up x.end_)::B=(A++[Xa m x])++B:=by simp[Xa,HL,hT]);rw[e3];exact ih _ v? fun y hy=>hn y (by simp[hy]);(rw[e2];have e3:A++x::B=(A++[Xa m x])++B:=by have: ¬x.n<0:=o?;simp[Xa,HL,this]);rw[e3];exact ih _ v? fun y hy=>hn y (by simp[hy])
theorem QZ(n:Int)(r:List Pt)(ds:List Int)(ns:List qa)(hl:r.length<=40000000):
  qJ (w7 n env lead unit r ds ns) (fun v=>(v= -1/\ ∀x∈r,x.kind=1->x.xW=true->x.n≠n)\/ ∃(d:Nat)(x:Pt),v=d/\r[d]? =some x/\x.kind=1/\x.xW=true/\x.n=n):=by
 have key: ∀(q:List Pt)(k:Nat),r.drop k=q->qJ (xf (n,(k:Int),env,lead,unit,r,ds,ns)) (fun v=>match v with| .inl v=> ∃(d:Nat)(x:Pt),v=d/\r[d]? =some x/\x.kind=1/\x.xW=true/\x.n=n| .inr _=> ∀x∈q,x.kind=1->x.xW=true->x.n≠n):=by intro q;induction q with|nil=>intro k hk;rw[xf.eq_1,if_neg (by simpa using yq hk)];exact .ret z?|cons x q ih=>(intro k hk;obtain⟨a1,a2,a3,a4⟩:=wV hk;obtain⟨b1,_,_⟩:=drop_cons hk;have next: ¬(x.kind=1/\x.xW=true/\x.n=n)->qJ (xf (n,((k+1:Nat):Int),env,lead,unit,r,ds,ns)) (fun v=>match v with| .inl v=> ∃(d:Nat)(x:Pt),v=d/\r[d]? =some x/\x.kind=1/\x.xW=true/\x.n=n| .inr _=> ∀y∈x::q,y.kind=1->y.xW=true->y.n≠n):=by intro h;exact tW);rw[xf.eq_1,if_pos (by simpa using a1),lg o? a1];exact tW
 unfold w7;refine .bind (key r 0 rfl) fun v hv=>?_;rcases v with v|v;exact .ret (.inr hv);exact .ret (.inl ⟨rfl,hv⟩)
theorem F0(ds:List Int)(ns:List qa): ∀(B A:List Pt)(zS:List Int),(A++B).length<=40000000->zS.length<=A.length->
  qJ (zq ((A.length:Int),env,lead,unit,A++B,ds,ns,zS)) (fun v=>v.1.map core=(A++B).map core/\v.1.map (·.n)=(A++B).map (·.n)):=by intro B;induction B with|nil=>intro A zS hl ht;rw[zq.eq_1,if_neg z?];exact .ret ⟨rfl,rfl⟩|cons x B ih=>(intro A zS hl ht;rw[zq.eq_1,if_pos v?];refine .go (ZM _ _ _) ?_;have hl' :=hl;simp only[t?,g?]at hl;rw[wr (n:=(A.length:Int)+1) o? o?];have e1: ∀y:Pt,((A.length:Int)+1)=((A++[y]).length:Int):=fun y=>z?;have e2: ∀y:Pt,A++y::B=(A++[y])++B:=fun y=>z?;have skip: ∀t:List Int,t.length<=A.length+1->qJ (zq ((A.length:Int)+1,env,lead,unit,A++x::B,ds,ns,t)) (fun v=>v.1.map core=(A++x::B).map core/\v.1.map (·.n)=(A++x::B).map (·.n)):=by intro t h;rw[e1 x,e2 x];exact ih (A++[x]) t v? (by simpa using h));(have mark:qJ (zq ((A.length:Int)+1,env,lead,unit,((A++x::B).set (A.length:Int).toNat (qc.mk x.kind x.text x.n x.xW true x.qL x.qR x.opts x.up x.end_)),ds,ns,zS++[x.n])) (fun v=>v.1.map core=(A++x::B).map core/\v.1.map (·.n)=(A++x::B).map (·.n)):=by rw[c?,Kf,e1 x,show(A++[x]).length=(A++[qc.mk x.kind x.text x.n x.xW true x.qL x.qR x.opts x.up x.end_]).length by simp,e2];refine(ih _ _ v? v?).mono fun v hv=>⟨hv.1.trans ?_,hv.2.trans ?_⟩;simp[core];simp);(have gU:qg (zS.length+1) 8=true:=by simp only[qg,zQ,decide_eq_true_eq];omega);refine .tI ?_ ?_<;>intro hT;refine .tI ?_ ?_<;>intro hT;exact .zz gU mark;refine .tI ?_ ?_<;>intro hT;refine .bind (QZ x.n _ ds ns hl') fun v _=>?_;refine .tI ?_ ?_<;>intro hT;refine .bind (tJ x.n zS o?) fun w _=>?_;refine .tI ?_ ?_<;>intro hT;exact .zz gU mark;exact skip zS o?;exact skip zS o?;exact skip zS o?;exact skip zS o?
theorem ren_inj{m a b:Int}(ha:a<=m)(hb:b<=m)(h0:0<=m)(h:HL m a=HL m b):a=b:=by unfold HL at h;split at h<;>split at h<;>omega
theorem Y7: ∀{l l' :List Pt},l'.map core=l.map core->l'.map (·.n)=l.map (·.n)->defs l' =defs l
 |[],[],_,_=>rfl
 |[],_::_,h,_=>by simp at h
 |_::_,[],h,_=>by simp at h
 |x::l,y::l',h1,h2=>by simp only[s?,List.cons.injEq]at h1 h2;have e:y.xW=x.xW:=(congrArg (·.xW) h1.1:(core y).xW=(core x).xW);have ih:=Y7 h1.2 h2.2;unfold defs at ih |-;simp only[T!,e];cases x.xW;simpa using ih;simp[h2.1,ih]
theorem Ou(m:Int)(l:List Pt):defs (l.map (Xa m))=(defs l).map (HL m):=by induction l with|nil=>rfl|cons x l ih=>unfold defs at ih |-;simp only[s?,T!,Xa];exact tW
theorem YE{α β:Type}{f:α->β}: ∀{l:List α},l.Nodup->(∀ a∈l,∀ b∈l,f a=f b->a=b)->(l.map f).Nodup
 |[],_,_=>z?
 |x::l,h,hf=>by rw[d!]at h;rw[s?,d!];refine⟨fun hm=>?_,YE h.2 fun a ha b hb=>hf a (by simp[ha]) b (by simp[hb])⟩;obtain⟨y,hy,e⟩:=N?.1 hm;have:=hf x z? y (by simp[hy]) e.symm;exact h.1 (this ▸ hy)
theorem Hh(r:List Pt)(ds:List Int)(ns:List qa)(hs:tn (-1) 0 r)(hI:sq r ds ns)(hl:r.length<=40000000):qJ (gf env lead unit r ds ns) Good:=by
 have hnl:=hI.nl;unfold gf;refine .bind (LZ r ds ns hl (fun x hx=>(hI.ok x hx).n.2) r 0 0 rfl o? o? o?) fun m hm=>?_;have h2:=ren_tot (env:=env) (lead:=lead) (unit:=unit) ds ns m hm.1 hm.2.1 r [] (by simpa using hl) (fun x hx=>by have:=(hI.ok x hx).n;omega);simp only[List.nil_append,List.length_nil]at h2;refine .bind h2 fun p hp=>?_;subst hp;have h4:=F0 (env:=env) (lead:=lead) (unit:=unit) ds ns (r.map (Xa m)) [] [] (by simpa using hl) z?;simp only[List.nil_append,List.length_nil]at h4;refine .bind h4 fun v hv=> .ret ?_;have hc:v.1.map core=r.map core:=by rw[hv.1,List.map_map];exact List.map_congr_left fun x _=>rfl
 have hd:defs v.1=(defs r).map (HL m):=by rw[Y7 hv.1 hv.2,Ou]
 refine⟨hs.ZV hc,fun y hy=>?_,fun y hy=>?_, ?_, ?_⟩;obtain⟨x,hx,e⟩:=LF hc hy;have h:=hI.ok x hx;exact GO.ZV ⟨h.kind,fun k=>(h.other k).2,h.qR,h.dt,h.od,h.tt,h.tl,h.ol⟩ e;(have:y.n∈(r.map (Xa m)).map (·.n):=by rw[<- hv.2];exact List.mem_map.2 ⟨y,hy,rfl⟩);simp only[List.map_map,List.mem_map,Function.comp]at this;obtain⟨x,hx,e⟩:=this;have h:=(hI.ok x hx).n;rw[<- e];simp only[Xa,HL];split<;>omega;(rw[hd];have hle: ∀a∈defs r,a<=m:=by intro a ha;obtain⟨x,hx,rfl⟩:=List.mem_map.1 ha;exact hm.2.2 x (List.mem_filter.1 hx).1);exact YE hI.un fun a ha b hb=>ren_inj (hle a ha) (hle b hb) hm.1;have:=congrArg List.length hc;simp only[List.length_map]at this;omega
end
def Holds(P:List Pt)(n m:Int):Prop:= ∃(d e:Nat)(x y:Pt),P[d]? =some x/\x.kind=1/\x.xW=true/\x.n=n/\d<e/\(e:Int)<x.end_/\P[e]? =some y/\y.kind=1/\y.n=m
def Um(P:List Pt):Prop:= ∀n,¬ T? (Holds P) n n
theorem XQ: ∀{a b:List Int},a.Nodup->(∀ x∈a,x∈b)->a.length<=b.length
 |[],b,_,_=>B! _
 |x::a,b,h,hb=>by (rw[d!]at h;have hx:=hb x z?;have h1: ∀y∈a,y∈b.erase x:=fun y hy=>by have jx:y≠x:=fun e=>h.1 (e ▸ hy);exact(List.mem_erase_of_ne jx).2 (hb y (by simp[hy])));have h2:=XQ h.2 h1;have h3:=List.length_erase_of_mem hx;have h4:=List.length_pos_of_mem hx;simp only[g?];omega
section
variable {env:Sl qv} {lead unit:qa}
theorem Lr(P:List Pt)(ds:List Int)(ns:List qa)(hl:P.length<=40000000)(d:Nat)(x:Pt)(hd:P[d]? =some x)(he:x.end_<=P.length): ∀(m i:Nat)(l:List Int),m=(x.end_-i).toNat->l.length<=100000000-m->
  qJ (kI ((d:Int),(i:Int),env,lead,unit,P,ds,ns,l)) (fun v=>(∀ n,n∈v↔n∈l\/ ∃(j:Nat)(y:Pt),i<=j/\(j:Int)<x.end_/\P[j]? =some y/\y.kind=1/\y.n=n)/\(l.Nodup->v.Nodup)):=by intro m;induction m using r? with|_ m ih=>(intro i l hm Fa;have Sp:=(qF hd).1;have hgd:qh P (d:Int)=some x:=by rw[jg Sp];simpa[wx Sp]using hd);rw[kI.eq_1];refine .go hgd ?_;have:= @wr;have:= @tJ;exact tW
theorem in2_L0(P:List Pt)(ds:List Int)(ns:List qa)(hl:P.length<=40000000)(d:Nat)(x:Pt)(hd:P[d]? =some x)(he:x.end_<=P.length): ∀(m i:Nat)(l:List Int),m=(x.end_-i).toNat->l.length<=100000000-m->
  qJ (ja ((d:Int),(i:Int),env,lead,unit,l,P,ds,ns)) (fun v=>(∀ n,n∈v↔n∈l\/ ∃(j:Nat)(y:Pt),i<=j/\(j:Int)<x.end_/\P[j]? =some y/\y.kind=1/\y.n=n)/\(l.Nodup->v.Nodup)/\ ∃t,v=l++t):=by
 intro m;induction m using r? with
  |_ m ih=>
   (intro i l hm Fa;have Sp:=(qF hd).1;have hgd:qh P (d:Int)=some x:=by rw[jg Sp];simpa[wx Sp]using hd);rw[ja.eq_1];refine .go hgd ?_;refine .tI ?_ ?_<;>intro hT
   ·have hi:=hT;refine .bind .get fun y hy=>?_;have hyi:P[i]? =some y:=by simpa using hy.1
    rw[wr (n:=(i:Int)+1) o? o?,show((i:Int)+1)=((i+1:Nat):Int) by omega];have next: ∀l',l'.length<=l.length+1->(∀ n,n∈l' ↔n∈l\/(y.kind=1/\y.n=n))->(l.Nodup->l'.Nodup)->(∃ t,l' =l++t)->
      qJ (ja ((d:Int),((i+1:Nat):Int),env,lead,unit,l',P,ds,ns)) (fun v=>(∀ n,n∈v↔n∈l\/ ∃(j:Nat)(y:Pt),i<=j/\(j:Int)<x.end_/\P[j]? =some y/\y.kind=1/\y.n=n)/\(l.Nodup->v.Nodup)/\ ∃t,v=l++t):=by
     intro l' h1 h2 h3 h4;refine(ih _ o? (i+1) l' rfl o?).mono fun v hv=>⟨fun n=>?_,fun h=>hv.2.1 (h3 h), ?_⟩
     ·rw[hv.1 n,h2 n];constructor
      ·rintro((h|h)|⟨j,z,j1,j2,j3,j4,j5⟩)
       ·exact .inl h
       ·exact .inr ⟨i,y,jv _,hi,hyi,h.1,h.2⟩
       exact .inr ⟨j,z,o?,j2,j3,j4,j5⟩
      rintro(h|⟨j,z,j1,j2,j3,j4,j5⟩)
      ·exact .inl (.inl h)
      rcases q0r j1 with rfl|j1
      ·rw[hyi]at j3;cases j3;exact .inl (.inr ⟨j4,j5⟩)
      exact .inr ⟨j,z,j1,j2,j3,j4,j5⟩
     obtain⟨t1,rfl⟩:=h4;obtain⟨t2,h⟩:=hv.2.2;exact⟨t1++t2,by rw[h,X_]⟩
    refine .tI ?_ ?_<;>intro hT;{have hk:=hT;refine .bind (tJ y.n l o?) fun w hw=>?_;refine .tI ?_ ?_<;>intro hT;{(have Wa:=hT;have hnot:y.n∉l:=fun h=>by have:=hw.2 h;rw[Wa]at this;cases this);refine .zz (by simp only[qg,zQ,decide_eq_true_eq];omega) (next _ z? (fun n=>?_) (fun h=>?_) ⟨_,rfl⟩);simp only[m?,d?,hk,true_and];exact or_congr_right eq_comm;refine x!.2 ⟨h,z?,fun a ha b hb=>?_⟩;simp only[d?]at hb;subst hb;exact fun e=>hnot (e ▸ ha)};(have Wa:=hw.1 hT;refine next l o? (fun n=>?_) id ⟨[],z?⟩);constructor;exact .inl;rintro(h|⟨_,rfl⟩);exact h;exact Wa};have hk:=hT;exact next l o? (fun n=>⟨.inl,fun h=>h.elim id fun h=>absurd h.1 hk⟩) id ⟨[],z?⟩
   have hi:=hT;refine .ret ⟨fun n=>⟨.inl,fun h=>h.elim id ?_⟩,id,[],z?⟩;rintro⟨j,z,j1,j2,_⟩;omega
theorem K0: ∀{P:List Pt}{i j:Nat}{x y:Pt},(defs P).Nodup->P[i]? =some x->P[j]? =some y->x.xW=true->y.xW=true->x.n=y.n->i=j
 |[],i,j,x,y,_,h1,_,_,_,_=>by simp at h1
 |z::P,i,j,x,y,hn,h1,h2,d1,d2,e=>by
  have tail:(defs P).Nodup:=by unfold defs at hn |-;exact tW
  have mem: ∀{k:Nat}{w:Pt},P[k]? =some w->w.xW=true->w.n∈defs P:=fun h hd=>
   N?.2 ⟨_,List.mem_filter.2 ⟨z7 h,hd⟩,rfl⟩
  (have head:z.xW=true->z.n∉defs P:=by intro hz;unfold defs at hn |-;exact tW);cases i with|zero=>exact tW|succ i=>cases j with|zero=>exact tW|succ j=>simp only[l?]at h1 h2;rw[K0 tail h1 h2 d1 d2 e]
theorem Good.end_{P:List Pt}(hP:Good P){i:Nat}{x:Pt}(h:P[i]? =some x):(i:Int)<x.end_/\x.end_<=P.length:=by have:=hP.seg.end_ i x h;simpa using this
theorem Bt(P:List Pt)(ds:List Int)(ns:List qa)(hP:Good P)(i:Int): ∀(m k:Nat)(l:List Int),m=P.length+1-k->l.Nodup->(∀ n∈l,n∈P.map (·.n))->(∀(j:Nat)(n:Int),j<k->l[j]? =some n-> ∀n',Holds P n n' ->n' ∈l)->k<=l.length->
  qJ (kC (i,(k:Int),env,lead,unit,P,ds,ns,l)) (fun v=>(∀ n∈l,n∈v)/\(∀ n∈v,∀ n',Holds P n n' ->n' ∈v)/\v.length<=P.length):=by have hl:=hP.len;intro m;induction m using r? with|_ m ih=>(intro k l hm Ei Z6 Xl pS;have Fa:l.length<=P.length:=by simpa using XQ Ei Z6);rw[kC.eq_1];refine .tI ?_ ?_<;>intro hT;(have hk:=hT;refine .bind .get fun n hn=>?_;have hnk:l[k]? =some n:=by simpa using hn.1);rw[wr (n:=(k:Int)+1) o? o?,show((k:Int)+1)=((k+1:Nat):Int) by omega];refine .bind (QZ n P ds ns hl) fun v hv=>?_;refine .tI ?_ ?_<;>intro hT;have H4:=hT;rcases hv with ⟨rfl,_⟩|⟨d,x,rfl,hd,x1,x2,x3⟩;omega;(have he:=hP.end_ hd;have h2:=in2_L0 (env:=env) (lead:=lead) (unit:=unit) P ds ns hl d x hd he.2 _ (d+1) l rfl o?;have h2' :qJ (nT (d:Int) env lead unit l P ds ns) (fun v=>(∀ n,n∈v↔n∈l\/ ∃(j:Nat)(y:Pt),d+1<=j/\(j:Int)<x.end_/\P[j]? =some y/\y.kind=1/\y.n=n)/\(l.Nodup->v.Nodup)/\ ∃t,v=l++t):=by unfold nT;rw[wr (n:=(d:Int)+1) (by have:=he.1;omega) o?,show((d:Int)+1)=((d+1:Nat):Int) by omega];exact .bind h2 fun v hv=> .ret hv);(refine .bind h2' fun w hw=>?_;obtain⟨t,ht⟩:=hw.2.2;have hwn:=hw.2.1 Ei;have hsub2: ∀n∈w,n∈P.map (·.n):=by intro q hq;rcases(hw.1 q).1 hq with h|⟨j,y,_,_,j3,_,j5⟩;exact Z6 q h;exact N?.2 ⟨y,z7 j3,j5⟩);have Sv: ∀q∈l,q∈w:=fun q hq=>(hw.1 q).2 (.inl hq);refine(ih _ o? (k+1) w rfl hwn hsub2 ?_ (by rw[ht];simp;omega)).mono fun v hv=>⟨fun q hq=>hv.1 q (Sv q hq),hv.2⟩;intro j q hj hq n' Fb;by_cases MK:j=k;(subst MK;have hqn:q=n:=by rw[ht,p? o?,hnk]at hq;exact(Option.some.inj hq).symm);subst hqn;obtain⟨d',e,x',y,p1,p2,p3,p4,p5,p6,p7,p8,p9⟩:=Fb;have hdd:d' =d:=K0 hP.un p1 hd p3 x2 (p4.trans x3.symm);subst hdd;rw[hd]at p1;cases p1;exact(hw.1 n').2 (.inr ⟨e,y,o?,p6,p7,p8,p9⟩);(have Ek:l[j]? =some q:=by rw[ht,p? o?]at hq;exact hq);exact Sv n' (Xl j q o? Ek n' Fb);have H4:=hT;refine ih _ o? (k+1) l rfl Ei Z6 ?_ o?;intro j q hj hq n' Fb;by_cases MK:j=k;subst MK;rw[hnk]at hq;cases hq;obtain⟨d',e,x',y,p1,p2,p3,p4,_⟩:=Fb;rcases hv with ⟨_,hv⟩|⟨d,x,rfl,_⟩;exact absurd p4 (hv x' (z7 p1) p2 p3);omega;exact Xl j q o? hq n' Fb;refine .ret ⟨fun _ h=>h,fun n hn n' Fb=>?_,Fa⟩;obtain⟨j,hj⟩:=kh hn;exact Xl j n (by have:=(qF hj).1;omega) hj n' Fb
theorem Tn(P:List Pt)(ds:List Int)(ns:List qa)(hP:Good P):qJ (nV env lead unit P ds ns) (fun v=>v=false->Um P):=by
 have hl:=hP.len;have key: ∀(q:List Pt)(k:Nat),P.drop k=q->qJ (xB ((k:Int),env,lead,unit,P,ds,ns)) (fun v=>match v with| .inl v=>v=true| .inr _=> ∀(d:Nat)(x:Pt),k<=d->P[d]? =some x->x.kind=1->x.xW=true-> ¬T? (Holds P) x.n x.n):=by intro q;induction q with|nil=>intro k hk;rw[xB.eq_1,if_neg (by simpa using yq hk)];refine .ret fun d x hd h=>?_;have:=vJ hk;have:=(qF h).1;omega|cons x q ih=>(intro k hk;obtain⟨a1,a2,a3,a4⟩:=wV hk;obtain⟨b1,_,_⟩:=drop_cons hk;have next:(x.kind=1->x.xW=true-> ¬T? (Holds P) x.n x.n)->qJ (xB (((k+1:Nat):Int),env,lead,unit,P,ds,ns)) (fun v=>match v with| .inl v=>v=true| .inr _=> ∀(d:Nat)(x:Pt),k<=d->P[d]? =some x->x.kind=1->x.xW=true-> ¬T? (Holds P) x.n x.n):=by intro h;refine(ih (k+1) a3).mono fun v hv=>?_;rcases v with v|v;exact hv;intro d y hd hy h1 h2;rcases q0r hd with rfl|hd;rw[b1]at hy;cases hy;exact h h1 h2;exact hv d y hd hy h1 h2);rw[xB.eq_1,if_pos (by simpa using a1),lg o? a1];refine .go a2 ?_;refine .tI ?_ ?_<;>intro hT;{have h0:=hT;exact next fun h=>absurd h h0};have h1:=hT;refine .tI ?_ ?_<;>intro hT;{have h0:=hT;exact next fun _ h=>by rw[h0]at h;cases h};(have h2:=hT;have he:=hP.end_ b1;have dE:qJ (pX (k:Int) env lead unit P ds ns) (fun v=>(∀ n,n∈v↔n∈([]:List Int)\/ ∃(j:Nat)(y:Pt),k+1<=j/\(j:Int)<x.end_/\P[j]? =some y/\y.kind=1/\y.n=n)/\(([]:List Int).Nodup->v.Nodup)):=by unfold pX;rw[wr (n:=(k:Int)+1) o? o?,show((k:Int)+1)=((k+1:Nat):Int) by omega];exact .bind (Lr P ds ns hl k x b1 he.2 _ (k+1) [] rfl z?) fun v hv=> .ret hv);(refine .bind dE fun v hv=>?_;have hvn:=hv.2 z?;have En: ∀n∈v,n∈P.map (·.n):=by intro q hq;rcases(hv.1 q).1 hq with h|⟨j,y,_,_,j3,_,j5⟩;cases h;exact N?.2 ⟨y,z7 j3,j5⟩);(have hc:=Bt (env:=env) (lead:=lead) (unit:=unit) P ds ns hP (k:Int) _ 0 v rfl hvn En (fun j n hj=>o?) (B! _);refine .bind hc fun w hw=>?_;have L1:w.length<=1099511627776:=by have:=hw.2.2;omega);refine .bind (tJ x.n w L1) fun y hy=>?_;refine .tI ?_ ?_<;>intro hT;exact .ret rfl;(have hy1:=hT;refine next fun _ _ hloop=>?_);(have all: ∀m,T? (Holds P) x.n m->m∈w:=by intro m hm;induction hm with|single h=>obtain⟨d',e,x',z,p1,p2,p3,p4,p5,p6,p7,p8,p9⟩:=h;have hdd:d' =k:=K0 hP.un p1 b1 p3 h2 p4;subst hdd;rw[b1]at p1;cases p1;exact hw.1 _ ((hv.1 _).2 (.inr ⟨e,z,o?,p6,p7,p8,p9⟩))|tail _ h ih=>exact hw.2.1 _ ih _ h);have:=hy.2 (all _ hloop);rw[hy1]at this;cases this
 unfold nV;refine .bind (key P 0 rfl) fun v hv=>?_;rcases v with v|v;(exact .ret fun h=>by rw[hv]at h;cases h);refine .ret fun _ n hn=>?_;have: ∀m,T? (Holds P) n m-> ∃(d:Nat)(x:Pt),P[d]? =some x/\x.kind=1/\x.xW=true/\x.n=n:=by intro m hm;induction hm with|single h=>obtain⟨d',e,x',z,p1,p2,p3,p4,_⟩:=h;exact⟨d',x',p1,p2,p3,p4⟩|tail _ _ ih=>exact ih
 obtain⟨d,x,h1,h2,h3,rfl⟩:=this n hn;exact hv d x (B! _) h1 h2 h3 hn
end
inductive nJ (P:List Pt):Int->Nat->Nat->Prop
 |nil (up:Int) (i:Nat):nJ P up i i
 |cons (up:Int) (i e hi:Nat) (x:Pt) (hx:P[i]? =some x) (hu:x.up=up) (he:x.end_=(e:Int)) (xQ:i<e) (hle:e<=hi) (hk:nJ P i (i+1) e) (hd:x.xW=false->e=i+1) (ho:x.opts.l≠[]->e=i+1) (hr:nJ P up e hi):nJ P up i hi
theorem nJ.le{P:List Pt}{up:Int}{i j:Nat}(h:nJ P up i j):i<=j:=by cases h<;>omega
theorem tn.chain{up:Int}{b:Nat}{l:List Pt}(h:tn up b l): ∀(pre post:List Pt),pre.length=b->nJ (pre++l++post) up b (b+l.length):=by induction h with|nil up b=>intro pre post _;exact .nil _ _|cons up b x qz rest hu he hd ho hk _ Gl K6=>intro pre post VD;have e1:b+(x::(qz++rest)).length=b+1+qz.length+rest.length:=v?;have h1:=Gl (pre++[x]) (rest++post) (by simp[VD]);have h2:=K6 (pre++[x]++qz) post (by simp[VD];omega);have e2:pre++[x]++qz++(rest++post)=pre++x::(qz++rest)++post:=z?;have e3:pre++[x]++qz++rest++post=pre++x::(qz++rest)++post:=z?;rw[e2]at h1;rw[e3]at h2;rw[e1];refine .cons up b (b+1+qz.length) _ x ?_ hu he o? o? h1 (fun h=>?_) (fun h=>?_) h2;exact tW;rw[hd h];rfl;rw[ho h];rfl
theorem tn.inner{up:Int}{b:Nat}{l:List Pt}(h:tn up b l): ∀(pre post:List Pt),pre.length=b-> ∀(i:Nat)(x:Pt),l[i]? =some x-> ∃e:Nat,x.end_=(e:Int)/\nJ (pre++l++post) ((b+i:Nat):Int) (b+i+1) e/\(x.xW=false->e=b+i+1)/\(x.opts.l≠[]->e=b+i+1):=by induction h with|nil up b=>intro pre post _ i x h;simp at h|cons up b x qz rest hu he hd ho hk _ Gl K6=>intro pre post VD i y hy;have e2:pre++[x]++qz++(rest++post)=pre++x::(qz++rest)++post:=z?;have e3:pre++[x]++qz++rest++post=pre++x::(qz++rest)++post:=z?;cases i with|zero=>simp only[List.getElem?_cons_zero,kG]at hy;subst hy;refine⟨b+1+qz.length,he, ?_,fun h=>?_,fun h=>?_⟩;have h1:=hk.chain (pre++[x]) (rest++post) (by simp[VD]);rw[e2]at h1;exact h1;rw[hd h];rfl;rw[ho h];rfl|succ i=>simp only[l?]at hy;by_cases hi:i<qz.length;rw[p? hi]at hy;obtain⟨e,f1,f2,f3,f4⟩:=Gl (pre++[x]) (rest++post) (by simp[VD]) i y hy;rw[e2]at f2;have e4:b+1+i=b+(i+1):=o?;rw[e4]at f2 f3 f4;exact⟨e,f1,f2,f3,f4⟩;rw[J? o?]at hy;obtain⟨e,f1,f2,f3,f4⟩:=K6 (pre++[x]++qz) post (by simp[VD];omega) (i-qz.length) y hy;exact tW
theorem Good.chain{P:List Pt}(hP:Good P):nJ P (-1) 0 P.length:=by have:=hP.seg.chain [] [] rfl;simpa using this
theorem Good.inner{P:List Pt}(hP:Good P){i:Nat}{x:Pt}(h:P[i]? =some x): ∃e:Nat,x.end_=(e:Int)/\nJ P (i:Int) (i+1) e/\(x.xW=false->e=i+1)/\(x.opts.l≠[]->e=i+1):=by have:=hP.seg.inner [] [] rfl i x h;simpa using this
def Qs(ns:List Int)(ts:List qa)(n:Int)(t:qa):Prop:= ∃k:Nat,ns[k]? =some n/\ts[k]? =some t/\ ∀j,j<k->ns[j]? ≠some n
theorem Qs.one{ns:List Int}{ts:List qa}{n:Int}{t u:qa}(h1:Qs ns ts n t)(h2:Qs ns ts n u):t=u:=by obtain⟨k,a1,a2,a3⟩:=h1;obtain⟨j,b1,b2,b3⟩:=h2;exact tW
theorem Qs.app{ns:List Int}{ts:List qa}{n:Int}{t:qa}(h:Qs ns ts n t)(a:List Int)(b:List qa):Qs (ns++a) (ts++b) n t:=by obtain⟨k,a1,a2,a3⟩:=h;have k1:=(qF a1).1;have k2:=(qF a2).1;refine⟨k,by rw[p? k1];exact a1,by rw[p? k2];exact a2,fun j hj=>?_⟩;exact tW
theorem Qs.new{ns:List Int}{ts:List qa}(hl:ns.length=ts.length){n:Int}(hn:n∉ns)(t:qa):Qs (ns++[n]) (ts++[t]) n t:=by refine⟨ns.length,z?,by simp[hl],fun j hj=>?_⟩;exact tW
theorem Qs.cases{ns:List Int}{ts:List qa}(hl:ns.length=ts.length){n m:Int}{t u:qa}(hn:n∉ns)(h:Qs (ns++[n]) (ts++[t]) m u):(m=n/\u=t)\/Qs ns ts m u:=by obtain⟨k,a1,a2,a3⟩:=h;by_cases hk:k<ns.length;refine .inr ⟨k,by rw[p? hk]at a1;exact a1,by rw[p? o?]at a2;exact a2,fun j hj=>?_⟩;exact tW;exact tW
def E7(P:List Pt)(ns:List Int)(ts:List qa)(i:Nat)(t:qa):Prop:=
 ∃(x:Pt)(b:qa),P[i]? =some x/\(x.kind=1->Qs ns ts x.n b)/\(x.kind≠1->b=x.text)/\(x.qL=false->t=b)/\(x.qL=true-> ∃l,hK x.qR b 20000=some (t,l,0))
theorem E7.app{P:List Pt}{ns:List Int}{ts:List qa}{i:Nat}{t:qa}(h:E7 P ns ts i t)(a:List Int)(b:List qa):E7 P (ns++a) (ts++b) i t:=by obtain⟨x,c,h1,h2,h3,h4,h5⟩:=h;exact⟨x,c,h1,fun k=>(h2 k).app a b,h3,h4,h5⟩
theorem E7.one{P:List Pt}{ns:List Int}{ts:List qa}{i:Nat}{t u:qa}(h1:E7 P ns ts i t)(h2:E7 P ns ts i u):t=u:=by
 obtain⟨x,b,a1,a2,a3,a4,a5⟩:=h1;obtain⟨y,c,b1,b2,b3,b4,b5⟩:=h2;rw[a1]at b1;cases b1;have hbc:b=c:=by by_cases k:x.kind=1;exact(a2 k).one (b2 k);rw[a3 k,b3 k]
 subst hbc;cases ht:x.qL;rw[a4 ht,b4 ht];exact tW
inductive mj (P:List Pt) (ns:List Int) (ts:List qa):Nat->Nat->qa->Prop
 |nil (i:Nat):mj P ns ts i i []
 |cons (i e hi:Nat) (x:Pt) (t u:qa) (hx:P[i]? =some x) (he:x.end_=(e:Int)) (hv:E7 P ns ts i t) (hr:mj P ns ts e hi u):mj P ns ts i hi (t++u)
theorem mj.app{P:List Pt}{ns:List Int}{ts:List qa}{i j:Nat}{t:qa}(h:mj P ns ts i j t)(a:List Int)(b:List qa):mj P (ns++a) (ts++b) i j t:=by induction h with|nil i=>exact .nil i|cons i e hi x t u hx he hv _ ih=>exact .cons i e hi x t u hx he (hv.app a b) ih
def Txt(P:List Pt)(ns:List Int)(ts:List qa)(n:Int)(t:qa):Prop:=
 (t=[]/\ ∀x∈P,x.kind=1->x.xW=true->x.n≠n)\/ ∃(d e:Nat)(x:Pt),P[d]? =some x/\x.kind=1/\x.xW=true/\x.n=n/\x.end_=(e:Int)/\(x.opts.l≠[]\/mj P ns ts (d+1) e t)
theorem Txt.app{P:List Pt}{ns:List Int}{ts:List qa}{n:Int}{t:qa}(h:Txt P ns ts n t)(a:List Int)(b:List qa):Txt P (ns++a) (ts++b) n t:=by rcases h with h|⟨d,e,x,h1,h2,h3,h4,h5,h6⟩;exact .inl h;exact .inr ⟨d,e,x,h1,h2,h3,h4,h5,h6.imp id fun h=>h.app a b⟩
structure gX (P:List Pt) (ns:List Int) (ts:List qa):Prop where
 len:ns.length=ts.length
 nd:ns.Nodup
 sub: ∀n∈ns,n∈P.map (·.n)
 txt: ∀n t,Qs ns ts n t->Txt P ns ts n t/\t.length<=65536
theorem gX.WG{P:List Pt}{ns:List Int}{ts:List qa}(h:gX P ns ts):ns.length<=P.length:=by simpa using XQ h.nd h.sub
theorem gX.more{P:List Pt}{ns:List Int}{ts:List qa}(h:gX P ns ts){n:Int}(hn:n∉ns)(hs:n∈P.map (·.n)){t:qa}(ht:Txt P ns ts n t)(hl:t.length<=65536):gX P (ns++[n]) (ts++[t]) where
 len:=by simp[h.len]
 nd:=by refine x!.2 ⟨h.nd,z?,fun a ha b hb=>?_⟩;exact tW
 sub:=by intro m hm;rcases m?.1 hm with hm|hm;exact h.sub m hm;exact tW
 txt:=by intro m u hu;rcases hu.cases h.len hn with ⟨rfl,rfl⟩|hu;exact⟨ht.app _ _,hl⟩;exact⟨(h.txt m u hu).1.app _ _,(h.txt m u hu).2⟩
theorem Nd(n:Int)(ns:List Int)(ts:List qa)(hl:ns.length<=1099511627776)(he:ns.length=ts.length):qJ (pV n ns ts) (fun v=>(v= -1/\n∉ns)\/ ∃(k:Nat)(t:qa),v=k/\ts[k]? =some t/\k<ts.length/\Qs ns ts n t):=by
 have key: ∀(q:List Int)(k:Nat),ns.drop k=q->(∀ j,j<k->ns[j]? ≠some n)->qJ (wL (n,(k:Int),ns,ts)) (fun v=>match v with| .inl v=> ∃(k:Nat)(t:qa),v=k/\ts[k]? =some t/\k<ts.length/\Qs ns ts n t| .inr _=>n∉q):=by intro q;induction q with|nil=>intro k hk hj;rw[wL.eq_1,if_neg (by simpa using yq hk)];exact .ret z?|cons c q ih=>intro k hk hj;obtain⟨a1,a2,a3,a4⟩:=wV hk;obtain⟨b1,_,b3⟩:=drop_cons hk;rw[wL.eq_1,if_pos (by simpa using a1),lg o? a1];refine .go a2 ?_;refine .tI ?_ ?_<;>intro hT;have Sr:k<ts.length:=o?;have ht:ts[k]? =some ts[k]:=wx Sr;exact .ret ⟨k,ts[k],rfl,ht,Sr,k,by rw[b1,hT],ht,hj⟩;have jx:=hT;refine(ih (k+1) a3 fun j hj2=>?_).mono fun v hv=>?_;rcases Nat.lt_succ_iff_lt_or_eq.1 hj2 with h|rfl;exact hj j h;rw[b1];simpa using jx;rcases v with v|v;exact hv;intro h;rcases U?.1 h with h|h;exact jx h.symm;exact hv h
 unfold pV;refine .bind (key ns 0 rfl o?) fun v hv=>?_;rcases v with v|v;exact .ret (.inr hv);exact .ret (.inl ⟨rfl,hv⟩)
noncomputable def mu (P:List Pt) (n:Int):Nat:=by
 classical exact((P.map (·.n)).filter (fun m=>decide (T? (Holds P) n m))).length
theorem filter_le{p q:Int->Bool}(h: ∀x,p x=true->q x=true): ∀l:List Int,(l.filter p).length<=(l.filter q).length
 |[]=>z?
 |b::l=>by have ih:=filter_le h l;cases hp:p b;cases hq:q b;simpa[hp,hq]using ih;simp[hp,hq];omega;have hq:=h b hp;simpa[hp,hq]using ih
theorem filter_lt{p q:Int->Bool}: ∀(l:List Int),(∀ x,p x=true->q x=true)->(∃ x∈l,q x=true/\p x=false)->(l.filter p).length<(l.filter q).length
 |[],_,h=>by obtain⟨x,hx,_⟩:=h;cases hx
 |a::l,h,⟨x,hx,h1,h2⟩=>by have hl:=filter_le h l;rcases U?.1 hx with rfl|hx;simp[h1,h2];omega;have ih:=filter_lt l h ⟨x,hx,h1,h2⟩;cases hp:p a;cases hq:q a;simpa[hp,hq]using ih;simp[hp,hq];omega;have hq:=h a hp;simpa[hp,hq]using ih
theorem mu_lt{P:List Pt}(hN:Um P){n m:Int}(h:Holds P n m):mu P m<mu P n:=by classical unfold mu;refine filter_lt _ (fun x hx=>?_) ⟨m, ?_, ?_, ?_⟩;simp only[decide_eq_true_eq]at hx |-;exact T?.trans (.single h) hx;obtain⟨d,e,x,y,_,_,_,_,_,_,h7,_,h9⟩:=h;exact tW;simpa using T?.single h;simpa using hN m
theorem q0e{A B C D E F G H I J:Type}{o:Option (A×B×C×D×E×F×G×H×I×J)}{Q:A×B×C×D×E×F×G×H×I×J->Prop}(h:qJ o Q):
  qJ (o>>=fun v=>some (v.1,v.2.1,v.2.2.1,v.2.2.2.1,v.2.2.2.2.1,v.2.2.2.2.2.1,v.2.2.2.2.2.2.1,v.2.2.2.2.2.2.2.1,v.2.2.2.2.2.2.2.2.1,v.2.2.2.2.2.2.2.2.2)) Q:=qJ.bind h fun v hv=> .ret hv
section
variable {env:Sl qv} {lead unit:qa} {P:List Pt} {ds:List Int} {nm:List qa}
def OfQ(env:Sl qv)(lead unit:qa)(P:List Pt)(ds:List Int)(nm:List qa)(i:Nat)(x:Pt)(ns:List Int)(ts:List qa)(v:qa×Int×Sl qv×qa×qa×List Pt×List Int×List qa×List Int×List qa):Prop:=
 v.1.length<=17592186044416/\(v.2.1=0-> ∃a b,v.2.2=(env,lead,unit,P,ds,nm,ns++a,ts++b)/\gX P (ns++a) (ts++b)/\(∀ m∈a,x.kind=1/\(m=x.n\/T? (Holds P) x.n m))/\E7 P (ns++a) (ts++b) i v.1)
def TextQ(env:Sl qv)(lead unit:qa)(P:List Pt)(ds:List Int)(nm:List qa)(n:Int)(ns:List Int)(ts:List qa)(v:qa×Int×Sl qv×qa×qa×List Pt×List Int×List qa×List Int×List qa):Prop:=
 v.2.1=0-> ∃a b,v.2.2=(env,lead,unit,P,ds,nm,ns++a,ts++b)/\gX P (ns++a) (ts++b)/\(∀ m∈a,T? (Holds P) n m)/\Txt P (ns++a) (ts++b) n v.1/\v.1.length<=65536
theorem XS(hP:Good P)(hN:Um P)(i:Nat)(x:Pt)(hx:P[i]? =some x)(ns:List Int)(ts:List qa)(hM:gX P ns ts)
  (htxt:x.kind=1->qJ (yi (x.n,env,lead,unit,P,ds,nm,ns,ts)) (TextQ env lead unit P ds nm x.n ns ts)):
  qJ (xT ((i:Int),env,lead,unit,P,ds,nm,ns,ts)) (OfQ env lead unit P ds nm i x ns ts):=by have hl:=hP.len;have db:=(qF hx).1;have Lh:=z7 hx;have hg:=hP.ok x Lh;have gU:=hM.WG;have hlen:=hM.len;rw[xT.eq_1];refine .go (a:=x) (by rw[jg db];simpa[wx db]using hx) ?_;refine .tI ?_ ?_<;>intro hT;have k1:=hT;refine .bind (Nd x.n ns ts o? hlen) fun v hv=>?_;refine .tI ?_ ?_<;>intro hT;(have H4:=hT;have hn:x.n∉ns:=by rcases hv with ⟨_,h⟩|⟨k,t,rfl,_⟩;exact h;omega);refine .bind (htxt k1) fun w hw=>?_;refine .tI ?_ ?_<;>intro hT;exact .ret ⟨z?,fun h=>absurd h hT⟩;(have hw0:=hT;obtain⟨a,b,e,m1,m2,m3,m4⟩:=hw hw0;obtain⟨w1,w2,w3⟩:=w;simp only at e m3 m4 hw0;subst e;have hna:x.n∉ns++a:=by intro h;rcases m?.1 h with h|h;exact hn h;exact hN _ (m2 _ h));(have hM2:=m1.more hna (N?.2 ⟨x,Lh,rfl⟩) m3 m4;have r2:=m1.WG;have l2:=m1.len;simp only;refine .zz (by simp only[qg,zQ,decide_eq_true_eq];omega) ?_;refine .zz (by simp only[qg,zQ,decide_eq_true_eq];omega) ?_;have e1:q?.wrap (((ts++b++[w1]).length:Int)-1)=((ts++b).length:Int):=by simp only[t?,g?,e?]at r2 l2 |-;rw[wr o? o?];omega);(rw[e1];refine .go (ZM (ts++b) [] w1) ?_;have hLook:=Qs.new l2 hna w1;have hadd: ∀m∈a++[x.n],x.kind=1/\(m=x.n\/T? (Holds P) x.n m):=by intro m hm;rcases m?.1 hm with hm|hm;exact⟨k1,.inr (m2 m hm)⟩;simp only[d?]at hm;exact⟨k1,.inl hm⟩);refine .tI ?_ ?_<;>intro hT;have ht:=hT;obtain⟨r,hr,hq⟩:=aG x.qR hg.qR w1 o? 20000;refine .go hr ?_;refine .ret ⟨?_,fun h0=>⟨a++[x.n],b++[w1],z?,by simpa using hM2,hadd,x,w1,hx,fun _=>by simpa using hLook,fun h=>absurd k1 h,fun h=>(by rw[ht]at h;cases h),fun _=>⟨r.2.1, ?_⟩⟩⟩;rcases hq with hq|hq;simp only;omega;simp only[hq];omega;rw[hr];simp only at h0 |-;rw[<- h0];have ht:=hT;exact .ret ⟨u?,fun h0=>⟨a++[x.n],b++[w1],z?,by simpa using hM2,hadd,x,w1,hx,fun _=>by simpa using hLook,fun h=>absurd k1 h,fun _=>rfl,fun h=>(by rw[ht]at h;cases h)⟩⟩;have H4:=hT;rcases hv with ⟨rfl,_⟩|⟨k,t,rfl,hk,pS,hL⟩;omega;have ht65:=(hM.txt _ _ hL).2;refine .go (a:=t) (by rw[jg pS];simpa[wx pS]using hk) ?_;refine .tI ?_ ?_<;>intro hT;have ht:=hT;obtain⟨r,hr,hq⟩:=aG x.qR hg.qR t o? 20000;refine .go hr ?_;refine .ret ⟨?_,fun h0=>⟨[],[],z?,by simpa using hM,z?,x,t,hx,fun _=>by simpa using hL,fun h=>absurd k1 h,fun h=>(by rw[ht]at h;cases h),fun _=>⟨r.2.1, ?_⟩⟩⟩;rcases hq with hq|hq;simp only;omega;simp only[hq];omega;rw[hr];simp only at h0 |-;rw[<- h0];have ht:=hT;exact .ret ⟨u?,fun h0=>⟨[],[],z?,by simpa using hM,z?,x,t,hx,fun _=>by simpa using hL,fun h=>absurd k1 h,fun _=>rfl,fun h=>(by rw[ht]at h;cases h)⟩⟩;have k1:=hT;refine .tI ?_ ?_<;>intro hT;have ht:=hT;have htt:=hg.tt ht;obtain⟨r,hr,hq⟩:=aG x.qR hg.qR x.text htt 20000;refine .go hr ?_;refine .ret ⟨?_,fun h0=>⟨[],[],z?,by simpa using hM,z?,x,x.text,hx,fun h=>absurd h k1,fun _=>rfl,fun h=>(by rw[ht]at h;cases h),fun _=>⟨r.2.1, ?_⟩⟩⟩;rcases hq with hq|hq;simp only;omega;simp only[hq];omega;rw[hr];simp only at h0 |-;rw[<- h0];have ht:=hT;exact .ret ⟨hg.tl,fun h0=>⟨[],[],z?,by simpa using hM,z?,x,x.text,hx,fun h=>absurd h k1,fun _=>rfl,fun _=>rfl,fun h=>(by rw[ht]at h;cases h)⟩⟩
abbrev RowR:=(qa×Int×qa×Sl qv×qa×qa×List Pt×List Int×List qa×List Int×List qa)⊕(qa×Sl qv×qa×qa×List Pt×List Int×List qa×List Int×List qa)
def RowQ(env:Sl qv)(lead unit:qa)(P:List Pt)(ds:List Int)(nm:List qa)(i hi:Nat)(s:qa)(ns:List Int)(ts:List qa):RowR->Prop
 | .inl y=>y.2.1≠0
 | .inr y=> ∃a b t,y=(s++t,env,lead,unit,P,ds,nm,ns++a,ts++b)/\gX P (ns++a) (ts++b)/\(∀ m∈a,∃(j:Nat)(x:Pt),i<=j/\j<hi/\P[j]? =some x/\x.kind=1/\(m=x.n\/T? (Holds P) x.n m))/\mj P (ns++a) (ts++b) i hi t/\(s++t).length<=65536
theorem row2_tot(hP:Good P){up:Int}{i hi:Nat}(hc:nJ P up i hi): ∀(s:qa)(ns:List Int)(ts:List qa),s.length<=65536->gX P ns ts->
  (∀(j:Nat)(x:Pt)(ns:List Int)(ts:List qa),i<=j->j<hi->P[j]? =some x->gX P ns ts->qJ (xT ((j:Int),env,lead,unit,P,ds,nm,ns,ts)) (OfQ env lead unit P ds nm j x ns ts))->
  qJ (xH ((hi:Int),s,(i:Int),env,lead,unit,P,ds,nm,ns,ts)) (RowQ env lead unit P ds nm i hi s ns ts):=by induction hc with|nil up i=>intro s ns ts hs hM hof;rw[xH.eq_1,if_neg z?];exact .ret ⟨[],[],[],z?,by simpa using hM,z?,.nil _,by simpa using hs⟩|cons up i e hi x hx hu he xQ hle hk hd ho hr _ K6=>intro s ns ts hs hM hof;have db:=(qF hx).1;rw[xH.eq_1,if_pos v?];refine .bind (hof i x ns ts (jv _) o? hx hM) fun v hv=>?_;refine .tI ?_ ?_<;>intro hT;exact .ret hT;have H4:=hT;obtain⟨a,b,e1,m1,m2,m3⟩:=hv.2 H4;obtain⟨v1,v2,v3⟩:=v;have Le:=hv.1;simp only at e1 m3 H4 Le;subst e1;simp only;refine .zz o? ?_;refine .tI ?_ ?_<;>intro hT;exact .ret (by simp[RowQ]);have hlen:=hT;refine .go (a:=x) (by rw[jg db];simpa[wx db]using hx) ?_;rw[he];refine(K6 (s++v1) (ns++a) (ts++b) o? m1 (fun j y ns ts h1 h2=>hof j y ns ts o? h2)).mono fun w hw=>?_;rcases w with w|w;exact hw;obtain⟨a2,b2,t,w1,w2,w3,w4,w5⟩:=hw;refine⟨a++a2,b++b2,v1++t, ?_, ?_, ?_, ?_, ?_⟩;rw[w1];simp;simpa using w2;intro m hm;rcases m?.1 hm with hm|hm;exact⟨i,x,jv _,o?,hx,m2 m hm⟩;obtain⟨j,y,j1,j2,j3⟩:=w3 m hm;exact⟨j,y,o?,j2,j3⟩;have:=mj.cons i e hi x v1 t hx he (m3.app a2 b2) w4;simpa using this;simpa using w5
theorem row1_tot(hP:Good P){up:Int}{i hi:Nat}(hc:nJ P up i hi): ∀(s:qa)(ns:List Int)(ts:List qa),s.length<=65536->gX P ns ts->
  (∀(j:Nat)(x:Pt)(ns:List Int)(ts:List qa),i<=j->j<hi->P[j]? =some x->gX P ns ts->qJ (xT ((j:Int),env,lead,unit,P,ds,nm,ns,ts)) (OfQ env lead unit P ds nm j x ns ts))->
  qJ (w8 ((hi:Int),s,(i:Int),env,lead,unit,P,ds,nm,ns,ts)) (RowQ env lead unit P ds nm i hi s ns ts):=by induction hc with|nil up i=>intro s ns ts hs hM hof;rw[w8.eq_1,if_neg z?];exact .ret ⟨[],[],[],z?,by simpa using hM,z?,.nil _,by simpa using hs⟩|cons up i e hi x hx hu he xQ hle hk hd ho hr _ K6=>intro s ns ts hs hM hof;have db:=(qF hx).1;rw[w8.eq_1,if_pos v?];refine .bind (hof i x ns ts (jv _) o? hx hM) fun v hv=>?_;refine .tI ?_ ?_<;>intro hT;exact .ret hT;have H4:=hT;obtain⟨a,b,e1,m1,m2,m3⟩:=hv.2 H4;obtain⟨v1,v2,v3⟩:=v;have Le:=hv.1;simp only at e1 m3 H4 Le;subst e1;simp only;refine .zz o? ?_;refine .tI ?_ ?_<;>intro hT;exact .ret (by simp[RowQ]);have hlen:=hT;refine .go (a:=x) (by rw[jg db];simpa[wx db]using hx) ?_;rw[he];refine(K6 (s++v1) (ns++a) (ts++b) o? m1 (fun j y ns ts h1 h2=>hof j y ns ts o? h2)).mono fun w hw=>?_;rcases w with w|w;exact hw;obtain⟨a2,b2,t,w1,w2,w3,w4,w5⟩:=hw;refine⟨a++a2,b++b2,v1++t, ?_, ?_, ?_, ?_, ?_⟩;rw[w1];simp;simpa using w2;intro m hm;rcases m?.1 hm with hm|hm;exact⟨i,x,jv _,o?,hx,m2 m hm⟩;obtain⟨j,y,j1,j2,j3⟩:=w3 m hm;exact⟨j,y,o?,j2,j3⟩;have:=mj.cons i e hi x v1 t hx he (m3.app a2 b2) w4;simpa using this;simpa using w5
theorem text_tot(hP:Good P)(hN:Um P): ∀(M:Nat)(n:Int),mu P n=M-> ∀(ns:List Int)(ts:List qa),gX P ns ts->qJ (yi (n,env,lead,unit,P,ds,nm,ns,ts)) (TextQ env lead unit P ds nm n ns ts):=by
 have hl:=hP.len;intro M;induction M using r? with
  |_ M ih=>
   intro n hn ns ts hM;rw[yi.eq_1];refine .bind (QZ n P ds nm hl) fun v hv=>?_;refine .tI ?_ ?_<;>intro hT;have H4:=hT;rcases hv with ⟨_,h⟩|⟨d,x,rfl,_⟩;exact .ret fun _=>⟨[],[],z?,by simpa using hM,z?,.inl ⟨rfl,h⟩,z?⟩;omega;have H4:=hT;rcases hv with ⟨rfl,_⟩|⟨d,x,rfl,hd,x1,x2,x3⟩;omega;have Sp:=(qF hd).1;obtain⟨e,he,hc,_,_⟩:=hP.inner hd;refine .go (a:=x) (by rw[jg Sp];simpa[wx Sp]using hd) ?_;refine .tI ?_ ?_<;>intro hT;have Sw:=hT;refine .bind .get fun o _=>?_;refine .tI ?_ ?_<;>intro hT;(exact .ret fun h=>by simp at h);have hlen:=hT;refine .ret fun _=>⟨[],[],z?,by simpa using hM,z?,.inr ⟨d,e,x,hd,x1,x2,x3,he,.inl ?_⟩,u?⟩;intro h;rw[h]at Sw;simp at Sw
   have Sw:=hT;have hee:=hP.end_ hd;rw[wr (n:=(d:Int)+1) o? o?,show((d:Int)+1)=((d+1:Nat):Int) by omega,he];have dE: ∀(j:Nat)(y:Pt),d+1<=j->j<e->P[j]? =some y->y.kind=1->Holds P n y.n:=fun j y h1 h2 h3 h4=>⟨d,j,x,y,hd,x1,x2,x3,o?,o?,h3,h4,rfl⟩;have eu:=row2_tot (env:=env) (lead:=lead) (unit:=unit) (ds:=ds) (nm:=nm) hP hc [] ns ts z? hM (fun j y ns ts h1 h2 h3 h4=>
    XS hP hN j y h3 ns ts h4 fun hk=>ih (mu P y.n) (by rw[<- hn];exact mu_lt hN (dE j y h1 h2 h3 hk)) y.n rfl ns ts h4)
   refine q0e (o:=yW (((d+1:Nat):Int),(e:Int),env,lead,unit,P,ds,nm,ns,ts)) ?_;rw[yW.eq_1];refine .bind eu fun w hw=>?_;rcases w with w|w;exact .ret fun h=>absurd h hw;obtain⟨a,b,t,rfl,w2,w3,w4,w5⟩:=hw;refine .ret fun _=>⟨a,b,rfl,w2,fun m hm=>?_,.inr ⟨d,e,x,hd,x1,x2,x3,he,.inr (by simpa using w4)⟩,by simpa using w5⟩;obtain⟨j,y,j1,j2,j3,j4,j5⟩:=w3 m hm;have h:=dE j y j1 j2 j3 j4;rcases j5 with rfl|j5;exact .single h;exact T?.trans (.single h) j5
end
inductive iY (H:Int->Int->Prop):Int->Int->Int->Nat->List qr->Prop
 |nil (up lo hi:Int) (b:Nat) (h:lo<=hi):iY H up lo hi b []
 |cons (up lo hi:Int) (b:Nat) (x:qr) (qz rest:List qr) (hu:x.up=up) (h1:lo<=x.span.qI) (h2:x.span.qI<=x.span.to) (hH: ∀y∈qz,H x.n y.n)
   (hk:iY H (b:Int) x.span.qI x.span.to (b+1) qz) (hr:iY H up x.span.to hi (b+1+qz.length) rest):iY H up lo hi b (x::(qz++rest))
theorem iY.le{H:Int->Int->Prop}{up lo hi:Int}{b:Nat}{l:List qr}(h:iY H up lo hi b l):lo<=hi:=by induction h with|nil _ _ _ _ h=>exact h|cons _ _ _ _ _ _ _ _ h1 h2 _ _ _ _ ih=>omega
theorem iY.mono{H:Int->Int->Prop}{up lo hi:Int}{b:Nat}{l:List qr}(h:iY H up lo hi b l){yv:Int}(hh:hi<=yv):iY H up lo yv b l:=by induction h with|nil up lo hi b h=>exact .nil _ _ _ _ o?|cons up lo hi b x qz rest hu h1 h2 hH hk _ _ ih=>exact .cons up lo yv b x qz rest hu h1 h2 hH hk (ih hh)
theorem iY.low{H:Int->Int->Prop}{up lo hi:Int}{b:Nat}{l:List qr}(h:iY H up lo hi b l){lo' :Int}(hh:lo' <=lo):iY H up lo' hi b l:=by cases h with|nil up lo hi b h=>exact .nil _ _ _ _ o?|cons up lo hi b x qz rest hu h1 h2 hH hk hr=>exact .cons up lo' hi b x qz rest hu o? h2 hH hk hr
theorem iY.HX{H:Int->Int->Prop}{up lo hi:Int}{b:Nat}{l:List qr}(h:iY H up lo hi b l)(x:qr)(hu:x.up=up)(h1:x.span.qI=hi)(h2:x.span.to=hi):iY H up lo hi b (l++[x]):=by induction h with|nil up lo hi b h=>exact .cons up lo hi b x [] [] hu o? o? z? (.nil _ _ _ _ o?) (.nil _ _ _ _ o?)|cons up lo hi b y qz rest hu' h1' h2' hH hk _ _ ih=>have:=iY.cons up lo hi b y qz (rest++[x]) hu' h1' h2' hH hk (ih hu h1 h2);simpa using this
def lz(P:List Pt)(j:Nat):Nat:=(P.take j).countP (fun x=>x.kind==1)
theorem lA{P:List Pt}{i:Nat}{x:Pt}(h:P[i]? =some x):lz P (i+1)=lz P i+if x.kind=1 then 1 else 0:=by obtain⟨hl,rfl⟩:=qF h;unfold lz;rw[List.take_succ_eq_append_getElem hl,List.countP_append];exact tW
section
variable {env:Sl qv} {lead unit:qa} {P:List Pt} {ds:List Int} {nm:List qa} {ns:List Int} {ts:List qa}
theorem SX(hP:Good P)(hM:gX P ns ts)(i:Nat)(t:qa)(hv:E7 P ns ts i t):xT ((i:Int),env,lead,unit,P,ds,nm,ns,ts)=some (t,0,env,lead,unit,P,ds,nm,ns,ts):=by
 have hl:=hP.len;have gU:=hM.WG;have hlen:=hM.len;obtain⟨x,b,hx,h1,h2,h3,h4⟩:=hv;have db:=(qF hx).1;have Gi:qh P (i:Int)=some x:=by rw[jg db];simpa[wx db]using hx
 rw[xT.eq_1,Gi];simp only[zJ,qS];by_cases k1:x.kind=1;have hL:=h1 k1;obtain⟨v,Z7,Ta⟩:=Nd x.n ns ts o? hlen;rcases Ta with ⟨_,hn⟩|⟨k,t',rfl,hk,pS,hL'⟩;obtain⟨k,a1,_⟩:=hL;exact absurd (z7 a1) hn;(have:=hL.one hL';subst this;have MH:qh ts (k:Int)=some b:=by rw[jg pS];simpa[wx pS]using hk);exact tW;have hb:=h2 k1;subst hb;rw[if_neg (by simp[k1])];cases ht:x.qL;rw[if_neg z?,h3 ht];obtain⟨l,hl⟩:=h4 ht;rw[if_pos rfl,hl];rfl
theorem N4(hP:Good P)(hM:gX P ns ts){i:Nat}{x:Pt}{t:qa}(hx:P[i]? =some x)(hk:x.kind=1)(hd:x.xW=true)(hv:E7 P ns ts i t){e:Nat}(he:x.end_=(e:Int))(ho:x.opts.l≠[]->e=i+1): ∃u,mj P ns ts (i+1) e u/\u.length<=t.length:=by obtain⟨y,b,h0,h1,_,h3,_⟩:=hv;rw[hx]at h0;cases h0;have ht:=h3 ((hP.ok x (z7 hx)).dt hd);subst ht;rcases(hM.txt _ _ (h1 hk)).1 with ⟨_,h⟩|⟨d,e',y,a1,a2,a3,a4,a5,a6⟩;exact absurd rfl (h x (z7 hx) hk hd);have:d=i:=K0 hP.un a1 hx a3 hd a4;subst this;rw[hx]at a1;cases a1;have:e' =e:=o?;subst this;rcases a6 with a6|a6;rw[ho a6];exact⟨[],.nil _,B! _⟩;exact⟨_,a6,jv _⟩
structure IA (P:List Pt) (qo:Int) (i hi:Nat) (W:qa) (out:List qr) (qZ:List Int) (Xi:Int) (l:List qr) (pl:List Int):Prop where
 NJ:pl.length=qZ.length
 sb: ∀j,j<i->pl[j]? =qZ[j]?
 MN:iY (Holds P) Xi qo (qo+W.length) out.length l
 mem: ∀y∈l,∃(j:Nat)(p:Pt),i<=j/\j<hi/\P[j]? =some p/\p.kind=1/\p.n=y.n/\p.qR=y.qR/\p.opts=y.opts
 len:l.length+lz P i<=lz P hi
theorem RE(hP:Good P)(hM:gX P ns ts){up:Int}{i hi:Nat}(hc:nJ P up i hi): ∀(qo:Int)(W:qa)(out:List qr)(qZ:List Int)(Xi:Int),mj P ns ts i hi W->0<=qo->qo+W.length<=65536->hi<=P.length->qZ.length=P.length->out.length+hi<=P.length+i->
  ((up= -1/\Xi= -1)\/ ∃u:Nat,up=u/\u<i/\qZ[u]? =some Xi)->
  qJ (zc ((hi:Int),qo,(i:Int),env,lead,unit,out,qZ,P,ds,nm,ns,ts)) (fun v=> ∃l pl,v=(qo+W.length,env,lead,unit,out++l,pl,P,ds,nm,ns,ts)/\IA P qo i hi W out qZ Xi l pl):=by
 have hPl:=hP.len;induction hc with
  |nil up i=>(intro qo W out qZ Xi hR h0 h1 hhi sZ Sw ZR;have hT0:W=[]:=by cases hR with|nil=>rfl|cons _ e _ x t u hx he _ hr=>(have h3:=(hP.end_ hx).1;have h4: ∀{a b:Nat}{t:qa},mj P ns ts a b t->a<=b:=by intro a b t h;induction h with|nil=>omega|cons a e b x t u hx he _ _ ih=>have:=(hP.end_ hx).1;omega);have:=h4 hr;omega);subst hT0;rw[zc.eq_1,if_neg z?];exact .ret ⟨[],qZ,z?,rfl,fun _ _=>rfl,.nil _ _ _ _ z?,z?,z?⟩
  |cons up i e hi x hx hu he xQ hle hk hd ho hr Gl K6=>
   (intro qo W out qZ Xi hR h0 h1 hhi sZ Sw ZR;have db:=(qF hx).1;have Gi:qh P (i:Int)=some x:=by rw[jg db];simpa[wx db]using hx);(obtain⟨t,u,hTu,hv,hru⟩: ∃t u,W=t++u/\E7 P ns ts i t/\mj P ns ts e hi u:=by cases hR with|nil=>omega|cons _ e' _ y t u hy hye hv hr2=>rw[hx]at hy;cases hy;have:e' =e:=o?;subst this;exact⟨t,u,rfl,hv,hr2⟩);subst hTu;simp only[t?]at h1;have So:=lA hx;have hchi:lz P (i+1)<=lz P e:=by unfold lz;exact q1n.countP_le (T_ o?)
   rw[zc.eq_1,if_pos v?];refine .go Gi ?_;refine .go (SX hP hM i t hv) ?_;simp only;have ew:q?.wrap (qo+(t.length:Int))=qo+t.length:=wr o? o?;rw[ew];have behind: ∀(l:List qr)(pl:List Int),IA P qo i e t out qZ Xi l pl->l.length<=e-i->
     qJ (qh P (i:Int)>>=fun y=>zc ((hi:Int),qo+t.length,y.end_,env,lead,unit,out++l,pl,P,ds,nm,ns,ts)) (fun v=> ∃l pl,v=(qo+(t++u).length,env,lead,unit,out++l,pl,P,ds,nm,ns,ts)/\IA P qo i hi (t++u) out qZ Xi l pl):=by
    intro l pl h Fa;refine .go Gi ?_;rw[he];refine(K6 (qo+t.length) u (out++l) pl Xi hru o? o? hhi (h.NJ.trans sZ) v? ?_).mono fun v hv=>?_
    ·rcases ZR with ZR|⟨w,w1,w2,w3⟩
     ·exact .inl ZR
     exact .inr ⟨w,w1,o?,by rw[h.sb w w2];exact w3⟩
    obtain⟨l2,pl2,rfl,q⟩:=hv;refine⟨l++l2,pl2,by simp[o_],q.NJ.trans h.NJ,fun j hj=>(q.sb j o?).trans (h.sb j hj), ?_, ?_, ?_⟩
    ·have h2:=q.MN;have h1:=h.MN;have app: ∀{up lo hi:Int}{b:Nat}{l:List qr},iY (Holds P) up lo hi b l-> ∀{MI:Int}{r:List qr},iY (Holds P) up hi MI (b+l.length) r->iY (Holds P) up lo MI b (l++r):=by
      intro up lo hi b l hl;induction hl with
      |nil up lo hi b h=>intro MI r hr;simpa using hr.low h
      |cons up lo hi b x qz rest hu h1 h2 hH hk _ _ ih=>
       intro MI r hr;have e1:b+(x::(qz++rest)).length=b+1+qz.length+rest.length:=v?;rw[e1]at hr;have:=iY.cons up lo MI b x qz (rest++r) hu h1 h2 hH hk (ih hr);simpa using this
     simp only[t?]at h2;have:=app h1 h2;simpa[o_]using this
    ·intro y hy;rcases m?.1 hy with hy|hy
     ·obtain⟨j,p,j1,j2,j3⟩:=h.mem y hy;exact⟨j,p,j1,o?,j3⟩
     obtain⟨j,p,j1,j2,j3⟩:=q.mem y hy;exact⟨j,p,o?,j2,j3⟩
    have:=q.len;have:=h.len;simp only[t?];omega
   by_cases k1:x.kind=1
   ·rw[if_pos k1]at So;rw[if_pos (by simp[k1])];have stop: ∀(S:qr),S.up=Xi->S.span.qI=qo->S.span.to=qo+t.length->S.n=x.n->S.qR=x.qR->S.opts=x.opts->
      qJ (qh qZ (i:Int)>>=fun _=>if qg (out.length+1) 200=true then
       if x.xW=true then
        zC (q?.wrap ((i:Int)+1),x.end_,qo,env,lead,unit,out++[S],qZ.set (i:Int).toNat (out.length:Int),P,ds,nm,ns,ts)>>=fun v=>
        qh v.2.2.2.2.2.2.1 (i:Int)>>=fun y=>
        zc ((hi:Int),qo+t.length,y.end_,v.2.1,v.2.2.1,v.2.2.2.1,v.2.2.2.2.1,v.2.2.2.2.2.1,v.2.2.2.2.2.2.1,v.2.2.2.2.2.2.2.1,v.2.2.2.2.2.2.2.2.1,v.2.2.2.2.2.2.2.2.2.1,v.2.2.2.2.2.2.2.2.2.2)
       else
        qh P (i:Int)>>=fun y=>zc ((hi:Int),qo+t.length,y.end_,env,lead,unit,out++[S],qZ.set (i:Int).toNat (out.length:Int),P,ds,nm,ns,ts)
       else none) (fun v=> ∃l pl,v=(qo+(t++u).length,env,lead,unit,out++l,pl,P,ds,nm,ns,ts)/\IA P qo i hi (t++u) out qZ Xi l pl):=by
     intro S s1 s2 s3 s4 s5 s6;refine .bind .get fun _ _=>?_;refine .zz (by simp only[qg,zQ,decide_eq_true_eq];omega) ?_;rw[c?];have pr: ∀j,j<i->(qZ.set i (out.length:Int))[j]? =qZ[j]? :=fun j hj=>by rw[N!];rw[if_neg o?]
     cases BQ:x.xW
     ·rw[if_neg z?];refine behind [S] _ ⟨z?,pr, ?_, ?_,v?⟩ v?
      ·exact .cons Xi qo _ out.length S [] [] s1 o? o? z? (.nil _ _ _ _ o?) (.nil _ _ _ _ o?)
      intro y hy;simp only[d?]at hy;subst hy;exact⟨i,x,jv _,xQ,hx,k1,s4.symm,s5.symm,s6.symm⟩
     rw[if_pos rfl];obtain⟨w,w1,w2⟩:=N4 hP hM hx k1 BQ hv he ho;have Sr:=Gl qo w (out++[S]) (qZ.set i (out.length:Int)) (out.length:Int) w1 h0 o? o? (by simpa using sZ) v? (.inr ⟨i,rfl,o?,g_ o?⟩);have hk3:qJ (zC (((i+1:Nat):Int),x.end_,qo,env,lead,unit,out++[S],qZ.set i (out.length:Int),P,ds,nm,ns,ts)) (fun v=> ∃l pl,v=(qo+w.length,env,lead,unit,out++[S]++l,pl,P,ds,nm,ns,ts)/\IA P qo (i+1) e w (out++[S]) (qZ.set i (out.length:Int)) (out.length:Int) l pl):=by
      rw[zC.eq_1,he];exact .bind Sr fun v hv=> .ret hv
     rw[wr (n:=(i:Int)+1) o? o?,show((i:Int)+1)=((i+1:Nat):Int) by omega];refine .bind hk3 fun v hv=>?_;obtain⟨l,pl,rfl,q⟩:=hv;have e1:out++[S]++l=out++(S::l):=z?;simp only[e1];have hql:=q.len;have Xl:lz P e<=lz P (i+1)+(e-(i+1)):=by
      have: ∀d,lz P (i+1+d)<=lz P (i+1)+d:=by
       intro d;induction d with
       |zero=>simp
       |succ d ih=>
        by_cases ME:i+1+d<P.length
        ·have:=lA (wx ME);rw[show i+1+(d+1)=i+1+d+1 by omega,this];split<;>omega
        have e2:lz P (i+1+(d+1))=lz P (i+1+d):=by unfold lz;rw[a! o?,a! o?]
        omega
      have:=this (e-(i+1));rw[show i+1+(e-(i+1))=e by omega]at this;exact this
     refine behind (S::l) pl ⟨by simpa using q.NJ,fun j hj=>(q.sb j o?).trans (pr j hj), ?_, ?_,v?⟩ v?
     ·have F9:iY (Holds P) (out.length:Int) S.span.qI S.span.to (out.length+1) l:=by
       rw[s2,s3];have:=q.MN;simp only[t?,g?,e?]at this;exact this.mono o?
      have:=iY.cons Xi qo (qo+t.length) out.length S l [] s1 o? o? (fun y hy=>?_) F9 (.nil _ _ _ _ o?)
      ·simpa using this
      obtain⟨j,p,j1,j2,j3,j4,j5,_⟩:=q.mem y hy;rw[s4];exact⟨i,j,x,p,hx,k1,BQ,rfl,o?,o?,j3,j4,j5⟩
     intro y hy;rcases U?.1 hy with rfl|hy
     ·exact⟨i,x,jv _,xQ,hx,k1,s4.symm,s5.symm,s6.symm⟩
     obtain⟨j,p,j1,j2,j3⟩:=q.mem y hy;exact⟨j,p,o?,j2,j3⟩
    rcases ZR with ⟨u1,u2⟩|⟨w,w1,w2,w3⟩;rw[if_neg v?];exact stop _ u2.symm rfl rfl rfl rfl rfl;rw[if_pos v?];have hwl:=(qF w3).1;refine .go (a:=Xi) (by rw[hu,w1,jg hwl];simpa[wx hwl]using w3) ?_;exact stop _ rfl rfl rfl rfl rfl rfl
   rw[if_neg k1]at So;rw[if_neg (by simp[k1])];have hde:e=i+1:=hd ((hP.ok x (z7 hx)).other k1).1;have:=behind [] qZ ⟨rfl,fun _ _=>rfl,.nil _ _ _ _ o?,z?,v?⟩ z?;simpa using this
end
section
variable {env:Sl qv} {lead unit:qa} {P:List Pt} {ds:List Int} {nm:List qa} {ns:List Int} {ts:List qa}
theorem RD(hP:Good P)(hM:gX P ns ts){up:Int}{i hi:Nat}(hc:nJ P up i hi): ∀(qo:Int)(W:qa)(out:List qr)(qZ:List Int)(Xi:Int),mj P ns ts i hi W->0<=qo->qo+W.length<=65536->hi<=P.length->qZ.length=P.length->out.length+hi<=P.length+i->
  ((up= -1/\Xi= -1)\/ ∃u:Nat,up=u/\u<i/\qZ[u]? =some Xi)->
  qJ (zw ((hi:Int),qo,(i:Int),env,lead,unit,qZ,P,ds,nm,ns,ts,out)) (fun v=> ∃l pl,v=(qo+W.length,env,lead,unit,pl,P,ds,nm,ns,ts,out++l)/\IA P qo i hi W out qZ Xi l pl):=by
 have hPl:=hP.len;induction hc with
  |nil up i=>(intro qo W out qZ Xi hR h0 h1 hhi sZ Sw ZR;have hT0:W=[]:=by cases hR with|nil=>rfl|cons _ e _ x t u hx he _ hr=>(have h3:=(hP.end_ hx).1;have h4: ∀{a b:Nat}{t:qa},mj P ns ts a b t->a<=b:=by intro a b t h;induction h with|nil=>omega|cons a e b x t u hx he _ _ ih=>have:=(hP.end_ hx).1;omega);have:=h4 hr;omega);subst hT0;rw[zw.eq_1,if_neg z?];exact .ret ⟨[],qZ,z?,rfl,fun _ _=>rfl,.nil _ _ _ _ z?,z?,z?⟩
  |cons up i e hi x hx hu he xQ hle hk hd ho hr Gl K6=>
   (intro qo W out qZ Xi hR h0 h1 hhi sZ Sw ZR;have db:=(qF hx).1;have Gi:qh P (i:Int)=some x:=by rw[jg db];simpa[wx db]using hx);(obtain⟨t,u,hTu,hv,hru⟩: ∃t u,W=t++u/\E7 P ns ts i t/\mj P ns ts e hi u:=by cases hR with|nil=>omega|cons _ e' _ y t u hy hye hv hr2=>rw[hx]at hy;cases hy;have:e' =e:=o?;subst this;exact⟨t,u,rfl,hv,hr2⟩);subst hTu;simp only[t?]at h1;have So:=lA hx;have hchi:lz P (i+1)<=lz P e:=by unfold lz;exact q1n.countP_le (T_ o?)
   rw[zw.eq_1,if_pos v?];refine .go Gi ?_;refine .go (SX hP hM i t hv) ?_;simp only;have ew:q?.wrap (qo+(t.length:Int))=qo+t.length:=wr o? o?;rw[ew];have behind: ∀(l:List qr)(pl:List Int),IA P qo i e t out qZ Xi l pl->l.length<=e-i->
     qJ (qh P (i:Int)>>=fun y=>zw ((hi:Int),qo+t.length,y.end_,env,lead,unit,pl,P,ds,nm,ns,ts,out++l)) (fun v=> ∃l pl,v=(qo+(t++u).length,env,lead,unit,pl,P,ds,nm,ns,ts,out++l)/\IA P qo i hi (t++u) out qZ Xi l pl):=by
    intro l pl h Fa;refine .go Gi ?_;rw[he];refine(K6 (qo+t.length) u (out++l) pl Xi hru o? o? hhi (h.NJ.trans sZ) v? ?_).mono fun v hv=>?_
    ·rcases ZR with ZR|⟨w,w1,w2,w3⟩
     ·exact .inl ZR
     exact .inr ⟨w,w1,o?,by rw[h.sb w w2];exact w3⟩
    obtain⟨l2,pl2,rfl,q⟩:=hv;refine⟨l++l2,pl2,by simp[o_],q.NJ.trans h.NJ,fun j hj=>(q.sb j o?).trans (h.sb j hj), ?_, ?_, ?_⟩
    ·have h2:=q.MN;have h1:=h.MN;have app: ∀{up lo hi:Int}{b:Nat}{l:List qr},iY (Holds P) up lo hi b l-> ∀{MI:Int}{r:List qr},iY (Holds P) up hi MI (b+l.length) r->iY (Holds P) up lo MI b (l++r):=by
      intro up lo hi b l hl;induction hl with
      |nil up lo hi b h=>intro MI r hr;simpa using hr.low h
      |cons up lo hi b x qz rest hu h1 h2 hH hk _ _ ih=>
       intro MI r hr;have e1:b+(x::(qz++rest)).length=b+1+qz.length+rest.length:=v?;rw[e1]at hr;have:=iY.cons up lo MI b x qz (rest++r) hu h1 h2 hH hk (ih hr);simpa using this
     simp only[t?]at h2;have:=app h1 h2;simpa[o_]using this
    ·intro y hy;rcases m?.1 hy with hy|hy
     ·obtain⟨j,p,j1,j2,j3⟩:=h.mem y hy;exact⟨j,p,j1,o?,j3⟩
     obtain⟨j,p,j1,j2,j3⟩:=q.mem y hy;exact⟨j,p,o?,j2,j3⟩
    have:=q.len;have:=h.len;simp only[t?];omega
   by_cases k1:x.kind=1
   ·rw[if_pos k1]at So;rw[if_pos (by simp[k1])];have stop: ∀(S:qr),S.up=Xi->S.span.qI=qo->S.span.to=qo+t.length->S.n=x.n->S.qR=x.qR->S.opts=x.opts->
      qJ (qh qZ (i:Int)>>=fun _=>if qg (out.length+1) 200=true then
       if x.xW=true then
        zC (q?.wrap ((i:Int)+1),x.end_,qo,env,lead,unit,out++[S],qZ.set (i:Int).toNat (out.length:Int),P,ds,nm,ns,ts)>>=fun v=>
        qh v.2.2.2.2.2.2.1 (i:Int)>>=fun y=>
        zw ((hi:Int),qo+t.length,y.end_,v.2.1,v.2.2.1,v.2.2.2.1,v.2.2.2.2.2.1,v.2.2.2.2.2.2.1,v.2.2.2.2.2.2.2.1,v.2.2.2.2.2.2.2.2.1,v.2.2.2.2.2.2.2.2.2.1,v.2.2.2.2.2.2.2.2.2.2,v.2.2.2.2.1)
       else
        qh P (i:Int)>>=fun y=>zw ((hi:Int),qo+t.length,y.end_,env,lead,unit,qZ.set (i:Int).toNat (out.length:Int),P,ds,nm,ns,ts,out++[S])
       else none) (fun v=> ∃l pl,v=(qo+(t++u).length,env,lead,unit,pl,P,ds,nm,ns,ts,out++l)/\IA P qo i hi (t++u) out qZ Xi l pl):=by
     intro S s1 s2 s3 s4 s5 s6;refine .bind .get fun _ _=>?_;refine .zz (by simp only[qg,zQ,decide_eq_true_eq];omega) ?_;rw[c?];have pr: ∀j,j<i->(qZ.set i (out.length:Int))[j]? =qZ[j]? :=fun j hj=>by rw[N!];rw[if_neg o?]
     cases BQ:x.xW
     ·rw[if_neg z?];refine behind [S] _ ⟨z?,pr, ?_, ?_,v?⟩ v?
      ·exact .cons Xi qo _ out.length S [] [] s1 o? o? z? (.nil _ _ _ _ o?) (.nil _ _ _ _ o?)
      intro y hy;simp only[d?]at hy;subst hy;exact⟨i,x,jv _,xQ,hx,k1,s4.symm,s5.symm,s6.symm⟩
     rw[if_pos rfl];obtain⟨w,w1,w2⟩:=N4 hP hM hx k1 BQ hv he ho;have Sr:=RE (env:=env) (lead:=lead) (unit:=unit) (ds:=ds) (nm:=nm) hP hM hk qo w (out++[S]) (qZ.set i (out.length:Int)) (out.length:Int) w1 h0 o? o? (by simpa using sZ) v? (.inr ⟨i,rfl,o?,g_ o?⟩);have hk3:qJ (zC (((i+1:Nat):Int),x.end_,qo,env,lead,unit,out++[S],qZ.set i (out.length:Int),P,ds,nm,ns,ts)) (fun v=> ∃l pl,v=(qo+w.length,env,lead,unit,out++[S]++l,pl,P,ds,nm,ns,ts)/\IA P qo (i+1) e w (out++[S]) (qZ.set i (out.length:Int)) (out.length:Int) l pl):=by
      rw[zC.eq_1,he];exact .bind Sr fun v hv=> .ret hv
     rw[wr (n:=(i:Int)+1) o? o?,show((i:Int)+1)=((i+1:Nat):Int) by omega];refine .bind hk3 fun v hv=>?_;obtain⟨l,pl,rfl,q⟩:=hv;have e1:out++[S]++l=out++(S::l):=z?;simp only[e1];have hql:=q.len;have Xl:lz P e<=lz P (i+1)+(e-(i+1)):=by
      have: ∀d,lz P (i+1+d)<=lz P (i+1)+d:=by
       intro d;induction d with
       |zero=>simp
       |succ d ih=>
        by_cases ME:i+1+d<P.length
        ·have:=lA (wx ME);rw[show i+1+(d+1)=i+1+d+1 by omega,this];split<;>omega
        have e2:lz P (i+1+(d+1))=lz P (i+1+d):=by unfold lz;rw[a! o?,a! o?]
        omega
      have:=this (e-(i+1));rw[show i+1+(e-(i+1))=e by omega]at this;exact this
     refine behind (S::l) pl ⟨by simpa using q.NJ,fun j hj=>(q.sb j o?).trans (pr j hj), ?_, ?_,v?⟩ v?
     ·have F9:iY (Holds P) (out.length:Int) S.span.qI S.span.to (out.length+1) l:=by
       rw[s2,s3];have:=q.MN;simp only[t?,g?,e?]at this;exact this.mono o?
      have:=iY.cons Xi qo (qo+t.length) out.length S l [] s1 o? o? (fun y hy=>?_) F9 (.nil _ _ _ _ o?)
      ·simpa using this
      obtain⟨j,p,j1,j2,j3,j4,j5,_⟩:=q.mem y hy;rw[s4];exact⟨i,j,x,p,hx,k1,BQ,rfl,o?,o?,j3,j4,j5⟩
     intro y hy;rcases U?.1 hy with rfl|hy
     ·exact⟨i,x,jv _,xQ,hx,k1,s4.symm,s5.symm,s6.symm⟩
     obtain⟨j,p,j1,j2,j3⟩:=q.mem y hy;exact⟨j,p,o?,j2,j3⟩
    rcases ZR with ⟨u1,u2⟩|⟨w,w1,w2,w3⟩;rw[if_neg v?];exact stop _ u2.symm rfl rfl rfl rfl rfl;rw[if_pos v?];have hwl:=(qF w3).1;refine .go (a:=Xi) (by rw[hu,w1,jg hwl];simpa[wx hwl]using w3) ?_;exact stop _ rfl rfl rfl rfl rfl rfl
   rw[if_neg k1]at So;rw[if_neg (by simp[k1])];have hde:e=i+1:=hd ((hP.ok x (z7 hx)).other k1).1;have:=behind [] qZ ⟨rfl,fun _ _=>rfl,.nil _ _ _ _ o?,z?,v?⟩ z?;simpa using this
theorem LL(hP:Good P): ∀(q:List Pt)(k:Nat)(m:Int),P.drop k=q->0<=m->m<=k->qJ (yN (m,(k:Int),env,lead,unit,P,ds,nm)) (fun v=>v+lz P k=m+lz P P.length):=by have hl:=hP.len;intro q;induction q with|nil=>(intro k m hk h0 h1;rw[yN.eq_1,if_neg (by simpa using yq hk)];have:=vJ hk;refine .ret ?_;have:lz P k=lz P P.length:=by unfold lz;rw[a! this,a! (jv _)]);omega|cons x q ih=>intro k m hk h0 h1;obtain⟨a1,a2,a3,a4⟩:=wV hk;obtain⟨b1,_,_⟩:=drop_cons hk;have hc:=lA b1;rw[yN.eq_1,if_pos (by simpa using a1),lg o? a1];have:= @wr;exact tW
theorem zero_tot(s:qa)(pl:List Int)(st:List qr)(hs:st.length<=40000000): ∀(q:List qr)(k:Nat)(z:Bool),st.drop k=q->(z=true-> ∃x∈st,x.n=0/\x.qL=false)->
  qJ (ve (s,z,(k:Int),env,lead,unit,P,ds,nm,ns,ts,pl,st)) (fun v=>v=true-> ∃x∈st,x.n=0/\x.qL=false):=by intro q;induction q with|nil=>intro k z hk hz;rw[ve.eq_1,if_neg (by simpa using yq hk)];exact .ret hz|cons x q ih=>intro k z hk hz;obtain⟨a1,a2,a3,a4⟩:=wV hk;rw[ve.eq_1,if_pos (by simpa using a1),lg o? a1];exact tW
end
structure P7 (s:qa) (st:List qr):Prop where
 len:s.length<=65536
 MN: ∃H:Int->Int->Prop,iY H (-1) 0 s.length 0 st/\ ∀n,¬ T? H n n
 many:0<st.length/\st.length<=257
 n: ∀x∈st,0<=x.n/\x.n<=100000000
 qR: ∀x∈st,vq x.qR<=1000000000/\(∀ o∈x.opts.l,o.length<=17592186044416)/\QP x.opts=0/\x.opts.l.length<=8192002
 free: ∃x∈st,x.qL=false
theorem P8{env:Sl qv}{lead unit:qa}(hE:GI env lead unit)(l:Sl qC)(hl:qO (l.l.map pO)<=8192002):qJ (fK l env lead unit) (fun r=>r.2.2=0->P7 r.1 r.2.1.l):=by
 unfold fK;refine .bind (Y0 l o?) fun v hv=>?_;refine .tI ?_ ?_<;>intro hT;exact .ret z?;have hS:=hv hT;refine .bind (Tg hE l hl hS (-1)) fun k hk=>?_;obtain⟨e1,e2,e3,⟨t,t1,t2,t3⟩,hI,_⟩:=hk;obtain⟨k1,k2,k3,r,kd,kn⟩:=k;simp only at e1 e2 e3 t1 hI;subst e1 e2 e3;simp only[List.nil_append]at t1;subst t1;simp only[List.length_nil]at t2;refine .bind (Hh r kd kn t2 hI o?) fun P hP=>?_;refine .bind (Tn P kd kn hP) fun w hw=>?_;refine .tI ?_ ?_<;>intro hT;exact .ret z?;have hN:=hw hT;have hPl:=hP.len;have L1:=LL (env:=k1) (lead:=k2) (unit:=k3) (ds:=kd) (nm:=kn) hP P 0 0 rfl o? o?;refine .bind L1 fun m hm=>?_;refine .tI ?_ ?_<;>intro hT;exact .ret z?;have hm256:=hT;have hcnt:lz P P.length<=256:=by (have:lz P 0=0:=by simp[lz]);omega
 have hM0:gX P [] []:=⟨rfl,z?,z?,fun n t h=>by obtain⟨k,h,_⟩:=h;simp at h⟩;have eu:=row1_tot (env:=k1) (lead:=k2) (unit:=k3) (ds:=kd) (nm:=kn) hP hP.chain [] [] [] z? hM0 (fun j y ns ts h1 h2 h3 h4=>
  XS hP hN j y h3 ns ts h4 fun _=>text_tot hP hN _ y.n rfl ns ts h4)
 have Sz:qJ (mP (0:Int) (P.length:Int) k1 k2 k3 P kd kn) (fun v=>v.2.1=0-> ∃ns ts,v=(v.1,0,k1,k2,k3,P,kd,kn,ns,ts)/\gX P ns ts/\mj P ns ts 0 P.length v.1/\v.1.length<=65536):=by unfold mP;refine .bind eu fun w hw=>?_;rcases w with w|w;exact .ret fun h=>absurd h hw;obtain⟨a,b,t,rfl,w2,w3,w4,w5⟩:=hw;exact .ret fun _=>⟨a,b,z?,by simpa using w2,by simpa using w4,by simpa using w5⟩
 refine .bind Sz fun y hy=>?_;refine .tI ?_ ?_<;>intro hT;exact .ret fun h=>absurd h hT;obtain⟨ns,ts,e,y2,y3,y4⟩:=hy hT;rw[e];simp only;generalize y.1=s at y3 y4 |-;refine .zz o? ?_;refine .zz (by simp only[qg,zQ,decide_eq_true_eq];omega) ?_;have Z5:=RD (env:=k1) (lead:=k2) (unit:=k3) (ds:=kd) (nm:=kn) hP y2 hP.chain 0 s [] (List.replicate P.length 0) (-1) y3 o? o? (jv _) z? z? (.inl ⟨rfl,rfl⟩);have hst2:qJ (bk (0:Int) (P.length:Int) (0:Int) k1 k2 k3 (List.replicate P.length 0) P kd kn ns ts) (fun v=> ∃l pl,v=((0:Int)+s.length,k1,k2,k3,pl,P,kd,kn,ns,ts,[]++l)/\IA P 0 0 P.length s [] (List.replicate P.length 0) (-1) l pl):=by unfold bk;exact .bind Z5 fun v hv=> .ret hv
 rw[show (P.length:Int).toNat=P.length by simp];refine .bind hst2 fun z hz=>?_;obtain⟨st,pl,rfl,q⟩:=hz;simp only[List.nil_append];have hql:=q.len;have hc0:lz P 0=0:=by simp[lz]
 have hnn: ∀x∈st,0<=x.n/\x.n<=100000000:=by intro x hx;obtain⟨j,p,_,_,j3,_,j5,_⟩:=q.mem x hx;rw[<- j5];exact hP.n p (z7 j3)
 have hff: ∀x∈st,vq x.qR<=1000000000/\(∀ o∈x.opts.l,o.length<=17592186044416)/\QP x.opts=0/\x.opts.l.length<=8192002:=by intro x hx;obtain⟨j,p,_,_,j3,_,_,j6,j7⟩:=q.mem x hx;have:=hP.ok p (z7 j3);rw[<- j6,<- j7];exact⟨this.qR,this.ol⟩
 have F9:iY (Holds P) (-1) 0 s.length 0 st:=by have:=q.MN;simpa using this
 refine .bind (zero_tot s pl st o? st 0 false rfl z?) fun z hz=>?_;refine .tI ?_ ?_<;>intro hT;refine .zz (by simp only[qg,zQ,decide_eq_true_eq];omega) ?_;refine .ret fun _=>⟨y4,⟨Holds P,F9.HX _ rfl rfl rfl,hN⟩,v?,fun x hx=>?_,fun x hx=>?_,⟨_,List.mem_append_right _ (List.mem_singleton.2 rfl),rfl⟩⟩;rcases List.mem_append.1 hx with hx|hx;exact hnn x hx;simp only[List.mem_singleton]at hx;subst hx;simp;rcases List.mem_append.1 hx with hx|hx;exact hff x hx;simp only[List.mem_singleton]at hx;subst hx;refine⟨?_,by simp[dD]⟩;simp[vq,yn,dD,Zk,qO];obtain⟨x,hx,_,h0⟩:=hz hT;refine .ret fun _=>⟨y4,⟨Holds P,F9,hN⟩,⟨List.length_pos_of_mem hx,u?⟩,hnn,hff,⟨x,hx,h0⟩⟩
namespace Xr
theorem Lk{x z:qr}{qz rest:List qr}{k:Nat}(h:(x::(qz++rest))[k]? =some z):(k=0/\z=x)\/(∃ i,k=i+1/\qz[i]? =some z)\/(∃ i,k=i+1+qz.length/\rest[i]? =some z):=by cases k with|zero=>simp at h;exact .inl ⟨rfl,h.symm⟩|succ k=>simp only[l?]at h;by_cases hk:k<qz.length;rw[p? hk]at h;exact .inr (.inl ⟨k,rfl,h⟩);rw[J? o?]at h;exact .inr (.inr ⟨k-qz.length,o?,h⟩)
theorem idx_k{x z:qr}{qz rest:List qr}{i:Nat}(h:qz[i]? =some z):(x::(qz++rest))[i+1]? =some z:=by have hi:=(qF h).1;simp only[l?];rw[p? hi];exact h
theorem idx_r{x z:qr}{qz rest:List qr}{i:Nat}(h:rest[i]? =some z):(x::(qz++rest))[i+1+qz.length]? =some z:=by rw[show i+1+qz.length=(qz.length+i)+1 by omega];simp only[l?];rw[J? o?];simpa using h
structure LayIn (up lo hi:Int) (b:Nat) (l:List qr) (k:Nat) (x:qr):Prop where
 lo:lo<=x.span.qI
 le:x.span.qI<=x.span.to
 hi:x.span.to<=hi
 ins:x.up=up\/ ∃(q:Nat)(y:qr),x.up=((b+q:Nat):Int)/\q<k/\l[q]? =some y/\y.span.qI<=x.span.qI/\x.span.to<=y.span.to
 Md: ∀(j:Nat)(y:qr),j<k->l[j]? =some y->y.up=x.up->y.span.to<=x.span.qI
 pre: ∀(j:Nat)(y:qr),j<k->x.up<((b+j:Nat):Int)->l[j]? =some y->x.up<=y.up
theorem LayX.ua{H:Int->Int->Prop}{up lo hi:Int}{b:Nat}{l:List qr}(h:iY H up lo hi b l):up<b-> ∀(k:Nat)(x:qr),l[k]? =some x->LayIn up lo hi b l k x:=by induction h with|nil=>intro _ k x hx;simp at hx|cons up lo hi b x qz rest hu h1 h2 hH hk hr Gl K6=>(intro hub k z hz;have Gl:=Gl o?;have K6:=K6 o?;have pS: ∀(i:Nat)(y:qr),qz[i]? =some y->i<qz.length:=fun i y h=>(qF h).1;have hrle:=hr.le;have kup: ∀(i:Nat)(y:qr),qz[i]? =some y->(b:Int)<=y.up/\y.up<b+1+qz.length:=by intro i y h;have:=pS i y h;rcases(Gl i y h).ins with e|⟨q,w,e,q1,_⟩<;>omega);(have rup: ∀(i:Nat)(y:qr),rest[i]? =some y->y.up=up\/(b:Int)+1+qz.length<=y.up:=by intro i y h;rcases(K6 i y h).ins with e|⟨q,w,e,q1,_⟩;exact .inl e;right;omega);rcases Lk hz with ⟨rfl,rfl⟩|⟨i,rfl,hi⟩|⟨i,rfl,hi⟩;exact⟨h1,h2,hrle,.inl hu,fun j y hj=>o?,fun j y hj=>o?⟩;have q:=Gl i z hi;refine⟨by have:=q.lo;omega,q.le,by have:=q.hi;omega, ?_, ?_, ?_⟩;rcases q.ins with e|⟨p,y,e,p1,p2,p3⟩;exact .inr ⟨0,x,by simpa using e,o?,z?,q.lo,q.hi⟩;exact .inr ⟨p+1,y,by rw[e];omega,o?,idx_k p2,p3⟩;intro j y hj hy ZR;rcases Lk hy with ⟨rfl,rfl⟩|⟨i',rfl,yv⟩|⟨i',rfl,yv⟩;have:=kup i z hi;omega;exact q.Md i' y o? yv ZR;have:=pS i z hi;omega;intro j y hj hz2 hy;have hzu:=kup i z hi;rcases Lk hy with ⟨rfl,rfl⟩|⟨i',rfl,yv⟩|⟨i',rfl,yv⟩;omega;exact q.pre i' y o? o? yv;have:=pS i z hi;omega;have q:=K6 i z hi;refine⟨by have:=q.lo;omega,q.le,q.hi, ?_, ?_, ?_⟩;rcases q.ins with e|⟨p,y,e,p1,p2,p3⟩;exact .inl e;exact .inr ⟨p+1+qz.length,y,by rw[e];omega,o?,idx_r p2,p3⟩;intro j y hj hy ZR;rcases Lk hy with ⟨rfl,rfl⟩|⟨i',rfl,yv⟩|⟨i',rfl,yv⟩;exact q.lo;have a1:=kup i' y yv;have a2:=rup i z hi;omega;exact q.Md i' y o? yv ZR;intro j y hj hz2 hy;have hzu:=rup i z hi;rcases Lk hy with ⟨rfl,rfl⟩|⟨i',rfl,yv⟩|⟨i',rfl,yv⟩;omega;have a1:=kup i' y yv;have a2:=pS i' y yv;omega;exact q.pre i' y o? o? yv
def Zj(a:Int)(x:qr):qr:={ x with span:=⟨x.span.qI+a,x.span.to+a⟩ }
theorem LayX.shift{H:Int->Int->Prop}{up lo hi:Int}{b:Nat}{l:List qr}(h:iY H up lo hi b l)(a:Int):iY H up (lo+a) (hi+a) b (l.map (Zj a)):=by induction h with|nil up lo hi b h=>exact .nil _ _ _ _ o?|cons up lo hi b x qz rest hu h1 h2 hH hk hr Gl K6=>rw[s?,Y!];refine .cons up (lo+a) (hi+a) b (Zj a x) _ _ hu ?_ ?_ (fun y hy=>?_) Gl ?_;simp only[Zj];omega;simp only[Zj];omega;obtain⟨z,hz,rfl⟩:=N?.1 hy;exact hH z hz;simp only[List.length_map];exact K6
theorem lay_may{H:Int->Int->Prop}{i:qk}{n:Int}(h:iY H (-1) i.span.qI i.span.to 0 i.stops.l)(h0:0<=i.span.qI)(h1:i.span.to<=n):Ul i n:=by have dE:=fun k x hx=>LayX.ua h o? k x hx;have xQ: ∀{k:Nat}{x:qr},i.stops.l[k]? =some x->k<i.stops.l.length:=fun h=>(qF h).1;refine⟨⟨h0,Go.Proofs.YtoflcafolmmaaaaGreat.iY.le h,h1⟩,fun k x hx=>?_,fun k x hx=>(dE k x hx).le,fun k x hx _=>⟨(dE k x hx).lo,(dE k x hx).hi⟩,fun k x hx p y hp hy=>?_,fun k x hx=>(dE k x hx).Md,fun k x hx q y hq hu hy=>(dE k x hx).pre q y hq o? hy⟩;rcases(dE k x hx).ins with e|⟨q,y,e,q1,_⟩<;>omega;rcases(dE k x hx).ins with e|⟨q,z,e,q1,q2,q3,q4⟩;omega;have:q=p:=o?;subst this;rw[hy]at q2;cases q2;exact⟨q3,q4⟩
end Xr
end Go.Proofs.YtoflcafolmmaaaaGreat
