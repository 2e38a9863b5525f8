/-
  FollowOwns: which stop owns a stretch, whether a session stays: the program tells what the document tells.
-/
import Derived.Test.YtmllebdamdnhoaaGreatAak
import Derived.Test.YtmllebdamdnhoaaGreatAaj
set_option linter.unusedSimpArgs false
set_option linter.unusedVariables false
set_option maxHeartbeats 1000000
namespace Go.Proofs.YtmllebdamdnhoaaGreat
open Go Go.Gm
section
variable {env:Sl qt} {lead unit:qa} {P:List Pt} {ds:List Int} {nm:List qa} {ns:List Int} {ts:List qa}
theorem PB(hP:Good P)(hM:uS P ns ts){up:Int}{i hi:Nat}(hc:bu P up i hi): ∀(qk:Int)(W:qa)(out:List qu)(z6:List Int)(QM:Int),bT P ns ts i hi W->0<=qk->qk+W.length<=65536->hi<=P.length->z6.length=P.length->out.length+hi<=P.length+i->
  ((up= -1/\QM= -1)\/ ∃u:Nat,up=u/\u<i/\z6[u]? =some QM)->
  qB (zk ((hi:Int),qk,(i:Int),env,lead,unit,z6,P,ds,nm,ns,ts,out)) (fun v=> ∃l pl,v=(qk+W.length,env,lead,unit,pl,P,ds,nm,ns,ts,out++l)/\FW P qk i hi W out z6 QM l pl):=by
 have hPl:=hP.len;induction hc with
 |nil up i=>
  intro qk W out z6 QM hR h0 h1 hhi sI Ef Xo;have hT0:W=[]:=by
   cases hR with
   |nil=>rfl
   |cons _ e _ x t u hx he _ hr=>
    have h3:=(hP.end_ hx).1;have h4: ∀{a b:Nat}{t:qa},bT P ns ts a b t->a<=b:=by
     intro a b t h;induction h with
     |nil=>omega
     |cons a e b x t u hx he _ _ ih=>have:=(hP.end_ hx).1;omega
    have:=h4 hr;omega
  subst hT0;rw[zk.eq_1,if_neg (by simp)];exact .ret ⟨[],z6,by simp,rfl,fun _ _=>rfl,.nil _ _ _ _ (by simp),by simp,by simp⟩
 |cons up i e hi x hx hu he xB hle hk hd ho hr UG XJ=>
  intro qk W out z6 QM hR h0 h1 hhi sI Ef Xo;have fD:=(qG hx).1;have UD:qi P (i:Int)=some x:=by rw[j8 fD];simpa[kU fD]using hx
  obtain⟨t,u,hTu,hv,hru⟩: ∃t u,W=t++u/\DE P ns ts i t/\bT P ns ts e hi u:=by
   cases hR with
   |nil=>omega
   |cons _ e' _ y t u hy hye hv hr2=>
    rw[hx]at hy;cases hy;have:e' =e:=by omega
    subst this;exact⟨t,u,rfl,hv,hr2⟩
  subst hTu;simp only[List.length_append]at h1;have BG:=iz hx;have hchi:iy P (i+1)<=iy P e:=by
   unfold iy;exact List.Sublist.countP_le (List.take_sublist_take_left (by omega))
  rw[zk.eq_1,if_pos (by simp;omega)];refine .go UD ?_;refine .go (TO hP hM i t hv) ?_;simp only;have ew:IntKind.i64.wrap (qk+(t.length:Int))=qk+t.length:=wr (by omega) (by omega);rw[ew];have behind: ∀(l:List qu)(pl:List Int),FW P qk i e t out z6 QM l pl->l.length<=e-i->
    qB (qi P (i:Int)>>=fun y=>zk ((hi:Int),qk+t.length,y.end_,env,lead,unit,pl,P,ds,nm,ns,ts,out++l)) (fun v=> ∃l pl,v=(qk+(t++u).length,env,lead,unit,pl,P,ds,nm,ns,ts,out++l)/\FW P qk i hi (t++u) out z6 QM l pl):=by
   intro l pl h SW;refine .go UD ?_;rw[he];refine(XJ (qk+t.length) u (out++l) pl QM hru (by omega) (by omega) hhi (h.GU.trans sI) (by simp;omega) ?_).mono fun v hv=>?_
   ·rcases Xo with Xo|⟨w,w1,w2,w3⟩
    ·exact .inl Xo
    exact .inr ⟨w,w1,by omega,by rw[h.tB w w2];exact w3⟩
   obtain⟨l2,pl2,rfl,q⟩:=hv;refine⟨l++l2,pl2,by simp[Int.add_assoc],q.GU.trans h.GU,fun j hj=>(q.tB j (by omega)).trans (h.tB j hj), ?_, ?_, ?_⟩
   ·have h2:=q.BM;have h1:=h.BM;have app: ∀{up lo hi:Int}{b:Nat}{l:List qu},aW (Holds P) up lo hi b l-> ∀{BI:Int}{r:List qu},aW (Holds P) up hi BI (b+l.length) r->aW (Holds P) up lo BI b (l++r):=by
     intro up lo hi b l hl;induction hl with
     |nil up lo hi b h=>intro BI r hr;simpa using hr.low h
     |cons up lo hi b x qy rest hu h1 h2 hH hk _ _ ih=>
      intro BI r hr;have e1:b+(x::(qy++rest)).length=b+1+qy.length+rest.length:=by simp;omega
      rw[e1]at hr;have:=aW.cons up lo BI b x qy (rest++r) hu h1 h2 hH hk (ih hr);simpa using this
    simp only[List.length_append]at h2;have:=app h1 h2;simpa[Int.add_assoc]using this
   ·intro y hy;rcases List.mem_append.1 hy with hy|hy
    ·obtain⟨j,p,j1,j2,j3⟩:=h.mem y hy;exact⟨j,p,j1,by omega,j3⟩
    obtain⟨j,p,j1,j2,j3⟩:=q.mem y hy;exact⟨j,p,by omega,j2,j3⟩
   have:=q.len;have:=h.len;simp only[List.length_append];omega
  by_cases k1:x.kind=1
  ·rw[if_pos k1]at BG;rw[if_pos (by simp[k1])];have stop: ∀(S:qu),S.up=QM->S.span.qO=qk->S.span.to=qk+t.length->S.n=x.n->S.qP=x.qP->S.opts=x.opts->
     qB (qi z6 (i:Int)>>=fun _=>if qg (out.length+1) 200=true then
      if x.xI=true then
       zs (IntKind.i64.wrap ((i:Int)+1),x.end_,qk,env,lead,unit,out++[S],z6.set (i:Int).toNat (out.length:Int),P,ds,nm,ns,ts)>>=fun v=>
       qi v.2.2.2.2.2.2.1 (i:Int)>>=fun y=>
       zk ((hi:Int),qk+t.length,y.end_,v.2.1,v.2.2.1,v.2.2.2.1,v.2.2.2.2.2.1,v.2.2.2.2.2.2.1,v.2.2.2.2.2.2.2.1,v.2.2.2.2.2.2.2.2.1,v.2.2.2.2.2.2.2.2.2.1,v.2.2.2.2.2.2.2.2.2.2,v.2.2.2.2.1)
      else
       qi P (i:Int)>>=fun y=>zk ((hi:Int),qk+t.length,y.end_,env,lead,unit,z6.set (i:Int).toNat (out.length:Int),P,ds,nm,ns,ts,out++[S])
      else none) (fun v=> ∃l pl,v=(qk+(t++u).length,env,lead,unit,pl,P,ds,nm,ns,ts,out++l)/\FW P qk i hi (t++u) out z6 QM l pl):=by
    intro S s1 s2 s3 s4 s5 s6;refine .bind .get fun _ _=>?_;refine .zm (by simp only[qg,zB,decide_eq_true_eq];omega) ?_;rw[Int.toNat_natCast];have nO: ∀j,j<i->(z6.set i (out.length:Int))[j]? =z6[j]? :=fun j hj=>by rw[List.getElem?_set];rw[if_neg (by omega)]
    cases G3:x.xI
    ·rw[if_neg (by simp)];refine behind [S] _ ⟨by simp,nO, ?_, ?_,by simp;omega⟩ (by simp;omega)
     ·exact .cons QM qk _ out.length S [] [] s1 (by omega) (by omega) (by simp) (.nil _ _ _ _ (by omega)) (.nil _ _ _ _ (by omega))
     intro y hy;simp only[List.mem_singleton]at hy;subst hy;exact⟨i,x,xJ _,xB,hx,k1,s4.symm,s5.symm,s6.symm⟩
    rw[if_pos rfl];obtain⟨w,w1,w2⟩:=Gh hP hM hx k1 G3 hv he ho;have Tk:=PC (env:=env) (lead:=lead) (unit:=unit) (ds:=ds) (nm:=nm) hP hM hk qk w (out++[S]) (z6.set i (out.length:Int)) (out.length:Int) w1 h0 (by omega) (by omega) (by simpa using sI) (by simp;omega) (.inr ⟨i,rfl,by omega,List.getElem?_set_self (by omega)⟩);have hk3:qB (zs (((i+1:Nat):Int),x.end_,qk,env,lead,unit,out++[S],z6.set i (out.length:Int),P,ds,nm,ns,ts)) (fun v=> ∃l pl,v=(qk+w.length,env,lead,unit,out++[S]++l,pl,P,ds,nm,ns,ts)/\FW P qk (i+1) e w (out++[S]) (z6.set i (out.length:Int)) (out.length:Int) l pl):=by
     rw[zs.eq_1,he];exact .bind Tk fun v hv=> .ret hv
    rw[wr (n:=(i:Int)+1) (by omega) (by omega),show((i:Int)+1)=((i+1:Nat):Int) by omega];refine .bind hk3 fun v hv=>?_;obtain⟨l,pl,rfl,q⟩:=hv;have e1:out++[S]++l=out++(S::l):=by simp
    simp only[e1];have hql:=q.len;have lY:iy P e<=iy P (i+1)+(e-(i+1)):=by
     have: ∀d,iy P (i+1+d)<=iy P (i+1)+d:=by
      intro d;induction d with
      |zero=>simp
      |succ d ih=>
       by_cases DL:i+1+d<P.length
       ·have:=iz (kU DL);rw[show i+1+(d+1)=i+1+d+1 by omega,this];split<;>omega
       have e2:iy P (i+1+(d+1))=iy P (i+1+d):=by unfold iy;rw[List.take_of_length_le (by omega),List.take_of_length_le (by omega)]
       omega
     have:=this (e-(i+1));rw[show i+1+(e-(i+1))=e by omega]at this;exact this
    refine behind (S::l) pl ⟨by simpa using q.GU,fun j hj=>(q.tB j (by omega)).trans (nO j hj), ?_, ?_,by simp;omega⟩ (by simp;omega)
    ·have SV:aW (Holds P) (out.length:Int) S.span.qO S.span.to (out.length+1) l:=by
      rw[s2,s3];have:=q.BM;simp only[List.length_append,List.length_cons,List.length_nil]at this;exact this.mono (by omega)
     have:=aW.cons QM qk (qk+t.length) out.length S l [] s1 (by omega) (by omega) (fun y hy=>?_) SV (.nil _ _ _ _ (by omega))
     ·simpa using this
     obtain⟨j,p,j1,j2,j3,j4,j5,_⟩:=q.mem y hy;rw[s4];exact⟨i,j,x,p,hx,k1,G3,rfl,by omega,by omega,j3,j4,j5⟩
    intro y hy;rcases List.mem_cons.1 hy with rfl|hy
    ·exact⟨i,x,xJ _,xB,hx,k1,s4.symm,s5.symm,s6.symm⟩
    obtain⟨j,p,j1,j2,j3⟩:=q.mem y hy;exact⟨j,p,by omega,j2,j3⟩
   rcases Xo with ⟨u1,u2⟩|⟨w,w1,w2,w3⟩
   ·rw[if_neg (by simp;omega)];exact stop _ u2.symm rfl rfl rfl rfl rfl
   rw[if_pos (by simp;omega)];have hwl:=(qG w3).1;refine .go (a:=QM) (by rw[hu,w1,j8 hwl];simpa[kU hwl]using w3) ?_;exact stop _ rfl rfl rfl rfl rfl rfl
  rw[if_neg k1]at BG;rw[if_neg (by simp[k1])];have hde:e=i+1:=hd ((hP.ok x (qX hx)).other k1).1;have:=behind [] z6 ⟨rfl,fun _ _=>rfl,.nil _ _ _ _ (by omega),by simp,by simp;omega⟩ (by simp);simpa using this
theorem EU(hP:Good P): ∀(q:List Pt)(k:Nat)(m:Int),P.drop k=q->0<=m->m<=k->qB (yb (m,(k:Int),env,lead,unit,P,ds,nm)) (fun v=>v+iy P k=m+iy P P.length):=by
 have hl:=hP.len;intro q;induction q with
 |nil=>
  intro k m hk h0 h1;rw[yb.eq_1,if_neg (by simpa using vH hk)];have:=wU hk;refine .ret ?_;have:iy P k=iy P P.length:=by unfold iy;rw[List.take_of_length_le this,List.take_of_length_le (xJ _)]
  omega
 |cons x q ih=>
  intro k m hk h0 h1;obtain⟨a1,a2,a3,a4⟩:=wv hk;obtain⟨b1,_,_⟩:=drop_cons hk;have hc:=iz b1;rw[yb.eq_1,if_pos (by simpa using a1),ia (by omega) a1];have:= @wr;exact tW
theorem Ls(s:qa)(pl:List Int)(st:List qu)(hs:st.length<=40000000): ∀(q:List qu)(k:Nat)(z:Bool),st.drop k=q->(z=true-> ∃x∈st,x.n=0/\x.qJ=false)->
  qB (wC (s,z,(k:Int),env,lead,unit,P,ds,nm,ns,ts,pl,st)) (fun v=>v=true-> ∃x∈st,x.n=0/\x.qJ=false):=by
 intro q;induction q with
 |nil=>
  intro k z hk hz;rw[wC.eq_1,if_neg (by simpa using vH hk)];exact .ret hz
 |cons x q ih=>
  intro k z hk hz;obtain⟨a1,a2,a3,a4⟩:=wv hk;rw[wC.eq_1,if_pos (by simpa using a1),ia (by omega) a1];exact tW
end
structure Na (s:qa) (st:List qu):Prop where
 len:s.length<=65536
 BM: ∃H:Int->Int->Prop,aW H (-1) 0 s.length 0 st/\ ∀n,¬ Relation.TransGen H n n
 many:0<st.length/\st.length<=257
 n: ∀x∈st,0<=x.n/\x.n<=100000000
 qP: ∀x∈st,vW x.qP<=1000000000/\ ∀o∈x.opts.l,o.length<=17592186044416
 free: ∃x∈st,x.qJ=false
theorem Nb{env:Sl qt}{lead unit:qa}(hE:H5 env lead unit)(l:Sl qA)(hl:qK (l.l.map ml)<=8192002):qB (d9 l env lead unit) (fun r=>r.2.2=0->Na r.1 r.2.1.l):=by
 unfold d9;refine .bind (WA l (by omega)) fun v hv=>?_;refine .tI ?_ ?_<;>intro hT
 ·exact .ret (by simp)
 have hS:=hv hT;refine .bind (Me hE l hl hS (-1)) fun k hk=>?_;obtain⟨e1,e2,e3,⟨t,t1,t2,t3⟩,hI,_⟩:=hk;obtain⟨k1,k2,k3,r,kd,kn⟩:=k;simp only at e1 e2 e3 t1 hI;subst e1 e2 e3;simp only[List.nil_append]at t1;subst t1;simp only[List.length_nil]at t2;refine .bind (YK r kd kn t2 hI (by omega)) fun P hP=>?_;refine .bind (Mm P kd kn hP) fun w hw=>?_;refine .tI ?_ ?_<;>intro hT
 ·exact .ret (by simp)
 have hN:=hw hT;have hPl:=hP.len;have Eb:=EU (env:=k1) (lead:=k2) (unit:=k3) (ds:=kd) (nm:=kn) hP P 0 0 rfl (by omega) (by omega);refine .bind Eb fun m hm=>?_;refine .tI ?_ ?_<;>intro hT
 ·exact .ret (by simp)
 have hm256:=hT;have hcnt:iy P P.length<=256:=by
  have:iy P 0=0:=by simp[iy]
  omega
 have hM0:uS P [] []:=⟨rfl,by simp,by simp,fun n t h=>by obtain⟨k,h,_⟩:=h;simp at h⟩;have cE:=Oo (env:=k1) (lead:=k2) (unit:=k3) (ds:=kd) (nm:=kn) hP hP.chain [] [] [] (by simp) hM0 (fun j y ns ts h1 h2 h3 h4=>
  Zm hP hN j y h3 ns ts h4 fun _=>L6 hP hN _ y.n rfl ns ts h4)
 have Tq:qB (ny (0:Int) (P.length:Int) k1 k2 k3 P kd kn) (fun v=>v.2.1=0-> ∃ns ts,v=(v.1,0,k1,k2,k3,P,kd,kn,ns,ts)/\uS P ns ts/\bT P ns ts 0 P.length v.1/\v.1.length<=65536):=by
  unfold ny;refine .bind cE fun w hw=>?_;rcases w with w|w
  ·exact .ret fun h=>absurd h hw
  obtain⟨a,b,t,rfl,w2,w3,w4,w5⟩:=hw;exact .ret fun _=>⟨a,b,by simp,by simpa using w2,by simpa using w4,by simpa using w5⟩
 refine .bind Tq fun y hy=>?_;refine .tI ?_ ?_<;>intro hT
 ·exact .ret fun h=>absurd h hT
 obtain⟨ns,ts,e,y2,y3,y4⟩:=hy hT;rw[e];simp only;generalize y.1=s at y3 y4 |-;refine .zm (by omega) ?_;refine .zm (by simp only[qg,zB,decide_eq_true_eq];omega) ?_;have XH:=PB (env:=k1) (lead:=k2) (unit:=k3) (ds:=kd) (nm:=kn) hP y2 hP.chain 0 s [] (List.replicate P.length 0) (-1) y3 (by omega) (by omega) (xJ _) (by simp) (by simp) (.inl ⟨rfl,rfl⟩);have hst2:qB (uZ (0:Int) (P.length:Int) (0:Int) k1 k2 k3 (List.replicate P.length 0) P kd kn ns ts) (fun v=> ∃l pl,v=((0:Int)+s.length,k1,k2,k3,pl,P,kd,kn,ns,ts,[]++l)/\FW P 0 0 P.length s [] (List.replicate P.length 0) (-1) l pl):=by
  unfold uZ;exact .bind XH fun v hv=> .ret hv
 rw[show (P.length:Int).toNat=P.length by simp];refine .bind hst2 fun z hz=>?_;obtain⟨st,pl,rfl,q⟩:=hz;simp only[List.nil_append];have hql:=q.len;have hc0:iy P 0=0:=by simp[iy]
 have hnn: ∀x∈st,0<=x.n/\x.n<=100000000:=by
  intro x hx;obtain⟨j,p,_,_,j3,_,j5,_⟩:=q.mem x hx;rw[<- j5];exact hP.n p (qX j3)
 have hff: ∀x∈st,vW x.qP<=1000000000/\ ∀o∈x.opts.l,o.length<=17592186044416:=by
  intro x hx;obtain⟨j,p,_,_,j3,_,_,j6,j7⟩:=q.mem x hx;have:=hP.ok p (qX j3);rw[<- j6,<- j7];exact⟨this.qP,this.ol⟩
 have SV:aW (Holds P) (-1) 0 s.length 0 st:=by
  have:=q.BM;simpa using this
 refine .bind (Ls s pl st (by omega) st 0 false rfl (by simp)) fun z hz=>?_;refine .tI ?_ ?_<;>intro hT
 ·refine .zm (by simp only[qg,zB,decide_eq_true_eq];omega) ?_;refine .ret fun _=>⟨y4,⟨Holds P,SV.Uk _ rfl rfl rfl,hN⟩,by simp;omega,fun x hx=>?_,fun x hx=>?_,⟨_,List.mem_append_right _ (List.mem_singleton.2 rfl),rfl⟩⟩
  ·rcases List.mem_append.1 hx with hx|hx
   ·exact hnn x hx
   simp only[List.mem_singleton]at hx;subst hx;simp
  rcases List.mem_append.1 hx with hx|hx
  ·exact hff x hx
  simp only[List.mem_singleton]at hx;subst hx;refine⟨?_,by simp⟩;simp[vW,vS,qK]
 obtain⟨x,hx,_,h0⟩:=hz hT;refine .ret fun _=>⟨y4,⟨Holds P,SV,hN⟩,⟨List.length_pos_of_mem hx,by simp only;omega⟩,hnn,hff,⟨x,hx,h0⟩⟩
namespace Xr
theorem EA{x z:qu}{qy rest:List qu}{k:Nat}(h:(x::(qy++rest))[k]? =some z):(k=0/\z=x)\/(∃ i,k=i+1/\qy[i]? =some z)\/(∃ i,k=i+1+qy.length/\rest[i]? =some z):=by
 cases k with
 |zero=>simp at h;exact .inl ⟨rfl,h.symm⟩
 |succ k=>
  simp only[List.getElem?_cons_succ]at h;by_cases hk:k<qy.length
  ·rw[List.getElem?_append_left hk]at h;exact .inr (.inl ⟨k,rfl,h⟩)
  rw[List.getElem?_append_right (by omega)]at h;exact .inr (.inr ⟨k-qy.length,by omega,h⟩)
theorem idx_k{x z:qu}{qy rest:List qu}{i:Nat}(h:qy[i]? =some z):(x::(qy++rest))[i+1]? =some z:=by
 have hi:=(qG h).1;simp only[List.getElem?_cons_succ];rw[List.getElem?_append_left hi];exact h
theorem idx_r{x z:qu}{qy rest:List qu}{i:Nat}(h:rest[i]? =some z):(x::(qy++rest))[i+1+qy.length]? =some z:=by
 rw[show i+1+qy.length=(qy.length+i)+1 by omega];simp only[List.getElem?_cons_succ];rw[List.getElem?_append_right (by omega)];simpa using h
structure LayIn (up lo hi:Int) (b:Nat) (l:List qu) (k:Nat) (x:qu):Prop where
 lo:lo<=x.span.qO
 le:x.span.qO<=x.span.to
 hi:x.span.to<=hi
 ins:x.up=up\/ ∃(q:Nat)(y:qu),x.up=((b+q:Nat):Int)/\q<k/\l[q]? =some y/\y.span.qO<=x.span.qO/\x.span.to<=y.span.to
 N4: ∀(j:Nat)(y:qu),j<k->l[j]? =some y->y.up=x.up->y.span.to<=x.span.qO
 pre: ∀(j:Nat)(y:qu),j<k->x.up<((b+j:Nat):Int)->l[j]? =some y->x.up<=y.up
theorem LayX.w6{H:Int->Int->Prop}{up lo hi:Int}{b:Nat}{l:List qu}(h:aW H up lo hi b l):up<b-> ∀(k:Nat)(x:qu),l[k]? =some x->LayIn up lo hi b l k x:=by
 induction h with
 |nil=>intro _ k x hx;simp at hx
 |cons up lo hi b x qy rest hu h1 h2 hH hk hr UG XJ=>
  intro hub k z hz;have UG:=UG (by omega);have XJ:=XJ (by omega);have mF: ∀(i:Nat)(y:qu),qy[i]? =some y->i<qy.length:=fun i y h=>(qG h).1;have hrle:=hr.le;have kup: ∀(i:Nat)(y:qu),qy[i]? =some y->(b:Int)<=y.up/\y.up<b+1+qy.length:=by
   intro i y h;have:=mF i y h;rcases(UG i y h).ins with e|⟨q,w,e,q1,_⟩<;>omega
  have rup: ∀(i:Nat)(y:qu),rest[i]? =some y->y.up=up\/(b:Int)+1+qy.length<=y.up:=by
   intro i y h;rcases(XJ i y h).ins with e|⟨q,w,e,q1,_⟩
   ·exact .inl e
   right;omega
  rcases EA hz with ⟨rfl,rfl⟩|⟨i,rfl,hi⟩|⟨i,rfl,hi⟩
  ·exact⟨h1,h2,hrle,.inl hu,fun j y hj=>by omega,fun j y hj=>by omega⟩
  ·have q:=UG i z hi;refine⟨by have:=q.lo;omega,q.le,by have:=q.hi;omega, ?_, ?_, ?_⟩
   ·rcases q.ins with e|⟨p,y,e,p1,p2,p3⟩
    ·exact .inr ⟨0,x,by simpa using e,by omega,by simp,q.lo,q.hi⟩
    exact .inr ⟨p+1,y,by rw[e];omega,by omega,idx_k p2,p3⟩
   ·intro j y hj hy Xo;rcases EA hy with ⟨rfl,rfl⟩|⟨i',rfl,vq⟩|⟨i',rfl,vq⟩
    ·have:=kup i z hi;omega
    ·exact q.N4 i' y (by omega) vq Xo
    have:=mF i z hi;omega
   intro j y hj hz2 hy;have hzu:=kup i z hi;rcases EA hy with ⟨rfl,rfl⟩|⟨i',rfl,vq⟩|⟨i',rfl,vq⟩
   ·omega
   ·exact q.pre i' y (by omega) (by omega) vq
   have:=mF i z hi;omega
  have q:=XJ i z hi;refine⟨by have:=q.lo;omega,q.le,q.hi, ?_, ?_, ?_⟩
  ·rcases q.ins with e|⟨p,y,e,p1,p2,p3⟩
   ·exact .inl e
   exact .inr ⟨p+1+qy.length,y,by rw[e];omega,by omega,idx_r p2,p3⟩
  ·intro j y hj hy Xo;rcases EA hy with ⟨rfl,rfl⟩|⟨i',rfl,vq⟩|⟨i',rfl,vq⟩
   ·exact q.lo
   ·have a1:=kup i' y vq;have a2:=rup i z hi;omega
   exact q.N4 i' y (by omega) vq Xo
  intro j y hj hz2 hy;have hzu:=rup i z hi;rcases EA hy with ⟨rfl,rfl⟩|⟨i',rfl,vq⟩|⟨i',rfl,vq⟩
  ·omega
  ·have a1:=kup i' y vq;have a2:=mF i' y vq;omega
  exact q.pre i' y (by omega) (by omega) vq
def lL(a:Int)(x:qu):qu:={ x with span:=⟨x.span.qO+a,x.span.to+a⟩ }
theorem LayX.shift{H:Int->Int->Prop}{up lo hi:Int}{b:Nat}{l:List qu}(h:aW H up lo hi b l)(a:Int):aW H up (lo+a) (hi+a) b (l.map (lL a)):=by
 induction h with
 |nil up lo hi b h=>exact .nil _ _ _ _ (by omega)
 |cons up lo hi b x qy rest hu h1 h2 hH hk hr UG XJ=>
  rw[List.map_cons,List.map_append];refine .cons up (lo+a) (hi+a) b (lL a x) _ _ hu ?_ ?_ (fun y hy=>?_) UG ?_
  ·simp only[lL];omega
  ·simp only[lL];omega
  ·obtain⟨z,hz,rfl⟩:=List.mem_map.1 hy;exact hH z hz
  simp only[List.length_map];exact XJ
theorem lay_may{H:Int->Int->Prop}{i:qw}{n:Int}(h:aW H (-1) i.span.qO i.span.to 0 i.stops.l)(h0:0<=i.span.qO)(h1:i.span.to<=n):VU i n:=by
 have sG:=fun k x hx=>LayX.w6 h (by omega) k x hx;have xB: ∀{k:Nat}{x:qu},i.stops.l[k]? =some x->k<i.stops.l.length:=fun h=>(qG h).1;refine⟨⟨h0,Go.Proofs.YtmllebdamdnhoaaGreat.aW.le h,h1⟩,fun k x hx=>?_,fun k x hx=>(sG k x hx).le,fun k x hx _=>⟨(sG k x hx).lo,(sG k x hx).hi⟩,fun k x hx p y hp hy=>?_,fun k x hx=>(sG k x hx).N4,fun k x hx q y hq hu hy=>(sG k x hx).pre q y hq (by omega) hy⟩
 ·rcases(sG k x hx).ins with e|⟨q,y,e,q1,_⟩<;>omega
 rcases(sG k x hx).ins with e|⟨q,z,e,q1,q2,q3,q4⟩
 ·omega
 have:q=p:=by omega
 subst this;rw[hy]at q2;cases q2;exact⟨q3,q4⟩
end Xr
namespace Xr
theorem Yd{st:qr}(h:wR st)(k:Int):qB (ta st k) (fun v=>v.2=0->wR v.1):=by
 have hl:=h.may.sB;unfold ta;refine JZ h ?_;rw[if_neg (by simp)];refine .ite (fun _=> .ret fun h0=>absurd h0 (by decide)) fun c=>?_;have jv:st.qj.l≠[]:=by intro e;rw[e]at c;simp at c
 have bU:=List.length_pos_iff.2 jv;rw[wi (n:=(st.qj.l.length:Int)-1),show(st.qj.l.length:Int)-1=((st.qj.l.length-1:Nat):Int)from by omega];obtain⟨x,hx⟩:=gl (l:=st.qj.l) (k:=st.qj.l.length-1) (by omega);refine .go (gi hx) ?_;refine .bind (Sp h k _ x (qX hx) _ x.insts.l 0 false [] rfl (by simp) (by simp) (by simp[wu])) fun v hv=>?_;refine .ite (fun _=> .ret fun h0=>absurd h0 (by decide)) fun _=>?_;refine .ite (fun _=> .ret fun h0=>absurd h0 (by decide)) fun _=>?_;have DS:v.2.length*17592186044416<=4096*17592186044416:=mulR _ hv.1;refine .bind (HQ st h ⟨v.2.isEmpty,v.2⟩ (by have:=hv.1;simp only;omega) (by have:=hv.2;simp only;omega)) fun w hw=>?_;refine .ite (fun c2=> .ret fun h0=>absurd h0 (by simpa using c2)) fun c2=>?_;rcases hw with hw|⟨_,hw,hless⟩
 ·exact absurd (by simpa using c2) hw
 refine .ite (fun _=> .ret fun _=>hw) fun c3=>?_;have hlen:w.1.qj.l.length=st.qj.l.length:=by
  have:=hless.1;simp only[decide_eq_true_eq]at c3;omega
 refine .bind (lv hw x.cur (fun y hy Ew=>?_) (by intro e;rw[e]at hlen;simp at hlen;omega)) fun u hu=> .ret hu;obtain⟨s,s1,s2⟩:=hless.2 _ y Ew;rw[hlen,hx]at s1;cases s1;rw[<- s2];exact hw.Jo y hy
structure VT (env:Sl qt):Prop where
 len:env.l.length<=64
 val: ∀p∈env.l,p.value.length<=65536
theorem Th(name:qa)(env:Sl qt)(h:VT env):qB (yj name env) (fun v=>v.1.length<=65536):=by
 have hl:=h.len;have loop: ∀(d k:Nat),k+d=env.l.length->qB (wB (name,env,(k:Int))) (fun v=>match v with| .inl y=>y.1.length<=65536| .inr _=>True):=by
  intro d;induction d with
  |zero=>intro k h;rw[wB.eq_1,if_neg (by simp;omega)];exact .ret trivial
  |succ d ih=>
   intro k hk;obtain⟨x,hx⟩:=gl (l:=env.l) (k:=k) (by omega);rw[wB.eq_1,if_pos (by simp;omega),ws (by omega)];refine .go (gi hx) ?_;exact .ite (fun _=> .ret (h.val x (qX hx))) fun _=>ih (k+1) (by omega)
 unfold yj;refine .bind (loop env.l.length 0 (by omega)) fun v hv=>?_;exact tW
theorem Gj(s:qa)(hs:s.length<=2^28)(c:UInt8):qB (kG s c) (fun v=> -1<=v/\v<s.length):=by
 have loop: ∀k:Nat,k<=s.length->qB (uF (s,c,(k:Int)-1)) (fun v=> -1<=v/\v<s.length):=by
  intro k;induction k with
  |zero=>intro _;rw[uF.eq_1,if_neg (by simp)];exact .ret ⟨by omega,by omega⟩
  |succ k ih=>
   intro h;obtain⟨b,hb⟩:=gl (l:=s) (k:=k) (by omega);rw[show ((k+1:Nat):Int)-1=(k:Int)from by omega,uF.eq_1,if_pos (by simp),wi (n:=(k:Int)-1)];have:= @gi;exact tW
 unfold kG;have:= @wi;exact tW
theorem NM(n:Int)(h0:0<=n)(h1:n<=2^28):qB (jE n) (fun v=>v.length<=n+1):=by
 have loop: ∀(m:Nat)(n:Int)(s r:qa),m=n.toNat->0<=n->n<=2^28->(s.length:Int)+n<=2^29->qB (yW (n,s,r)) (fun v=>(v.length:Int)<=s.length+n):=by
  intro m;induction m using Nat.strongRecOn with
  |_ m ih=>
  intro n s r hm h0 h1 hs;rw[yW.eq_1];have:= @wi;exact tW
 unfold jE;exact tW
section
variable (s:qa) (hs:s.length<=65536) (env:Sl qt) (line:Int) (x:qx) (sp:ql) (r2 out r4:List qt)
include hs
theorem placeA(b:Int): ∀k:Nat,k<=s.length->qB (yE (s,env,line,(k:Int),b,x,sp,r2,out,r4)) (fun v=>0<=v/\v<=k):=by
 intro k;induction k with
 |zero=>intro _;rw[yE.eq_1,if_neg (by simp)];exact .ret ⟨by omega,by omega⟩
 |succ k ih=>
  intro h;obtain⟨c,hc⟩:=gl (l:=s) (k:=k) (by omega);rw[yE.eq_1,if_pos (by simp only[decide_eq_true_eq];omega),wi (n:=((k+1:Nat):Int)-1),show((k+1:Nat):Int)-1=(k:Int)from by omega];refine .go (gi hc) ?_;refine .bind (sC c) fun v _=>?_;exact .ite (fun _=>qB.mono (ih (by omega)) fun v hv=>⟨hv.1,by omega⟩) fun _=> .ret ⟨by omega,by omega⟩
theorem placeA2(b:Int): ∀k:Nat,k<=s.length->qB (we (s,env,line,(k:Int),b,x,sp,r2,out)) (fun v=>0<=v/\v<=k):=by
 intro k;induction k with
 |zero=>intro _;rw[we.eq_1,if_neg (by simp)];exact .ret ⟨by omega,by omega⟩
 |succ k ih=>
  intro h;obtain⟨c,hc⟩:=gl (l:=s) (k:=k) (by omega);rw[we.eq_1,if_pos (by simp only[decide_eq_true_eq];omega),wi (n:=((k+1:Nat):Int)-1),show((k+1:Nat):Int)-1=(k:Int)from by omega];refine .go (gi hc) ?_;refine .bind (sC c) fun v _=>?_;exact .ite (fun _=>qB.mono (ih (by omega)) fun v hv=>⟨hv.1,by omega⟩) fun _=> .ret ⟨by omega,by omega⟩
theorem placeB(a:Int): ∀(d k:Nat),k+d=s.length->qB (yF (s,env,line,a,(k:Int),x,sp,r2,out,r4)) (fun v=>k<=v/\v<=s.length):=by
 intro d;induction d with
 |zero=>intro k h;rw[yF.eq_1,if_neg (by simp;omega)];exact .ret ⟨by omega,by omega⟩
 |succ d ih=>
  intro k h;obtain⟨c,hc⟩:=gl (l:=s) (k:=k) (by omega);rw[yF.eq_1,if_pos (by simp;omega),ws (by omega)];refine .go (gi hc) ?_;refine .bind (sC c) fun v _=>?_;exact .ite (fun _=>qB.mono (ih (k+1) (by omega)) fun v hv=>⟨by omega,hv.2⟩) fun _=> .ret ⟨by omega,by omega⟩
theorem placeB2(a:Int): ∀(d k:Nat),k+d=s.length->qB (wh (s,env,line,a,(k:Int),x,sp,r2,out)) (fun v=>k<=v/\v<=s.length):=by
 intro d;induction d with
 |zero=>intro k h;rw[wh.eq_1,if_neg (by simp;omega)];exact .ret ⟨by omega,by omega⟩
 |succ d ih=>
  intro k h;obtain⟨c,hc⟩:=gl (l:=s) (k:=k) (by omega);rw[wh.eq_1,if_pos (by simp;omega),ws (by omega)];refine .go (gi hc) ?_;refine .bind (sC c) fun v _=>?_;exact .ite (fun _=>qB.mono (ih (k+1) (by omega)) fun v hv=>⟨by omega,hv.2⟩) fun _=> .ret ⟨by omega,by omega⟩
end
section
def Y1(l:List qt):Prop:= ∀p∈l,p.value.length<=1048576
theorem pB{p:qt}{l:List qt}(h:p.value.length<=1048576)(hl:Y1 l):Y1 (p::l):=fun q hq=>by
 rcases List.mem_cons.1 hq with rfl|hq
 ·exact h
 exact hl q hq
variable {s:qa} (hs:s.length<=65536) {env:Sl qt} (he:VT env)
include hs he
theorem GS(x:qx)(h0:0<=(yU x).qO)(h1:(yU x).to<=s.length):qB (sg s x env) (fun v=>v.1.l.length<=100/\Y1 v.1.l):=by
 have Yt:=he.len;have hE:Y1 env.l:=fun p hp=>by have:=he.val p hp;omega
 have hx:=iY x;obtain⟨k,hk⟩: ∃k:Nat,x.head=k:=⟨x.head.toNat,by omega⟩;have hA:=Nu s (by omega) x.head;unfold sg;refine .go (X4 x) ?_;rw[if_neg (by simp;omega)];have lines: ∀{β:Type}{Q:β->Prop}{f:(Int×Int)->qa->Option β},(∀ v r,0<=v.1->v.1<=65536->r.length<=65536->qB (f v r) Q)->qB (sU s x.head>>=fun v=>yQ s v.1>>=fun a=>th s v.1>>=fun b=>kb s a.1 b.1>>=fun r=>f v r) Q:=by
  intro β Q f hf;refine .bind hA fun v hv=>?_;obtain⟨a,b,c,g1,g2,g3,g4,g5,_⟩:=og s (by omega) v.1;refine .go g1 (qB.go g2 ?_);refine .bind (qB.kb (by simp only;omega) (by simp only;omega) (by simp only;omega)) fun r hr=>?_;have hb:=KA s x.head.toNat;have hb2:=Nx s;have:=hr.2;simp only at this;refine hf v r ?_ ?_ (by omega)<;>rcases hv with ⟨_,_,_,hv⟩|⟨_,hv,_⟩<;>omega
 have ZH: ∀(n:Nat)(l0:List qt),n<=36->l0.length<=36->Y1 l0->qB (if qg (n+env.l.length) 32=true then some ((⟨false,l0++env.l⟩:Sl qt),(0:Int))else none) (fun v=>v.1.l.length<=100/\Y1 v.1.l):=by
  intro n l0 hn hl hv;refine .zm qC (.ret ⟨by simp;omega,fun p hp=>?_⟩);rcases List.mem_append.1 hp with hp|hp
  ·exact hv p hp
  exact hE p hp
 have TT: ∀(m n:Nat)(l0:List qt)(L:qa->qa->qa->List qt),m<=36->n<=36->l0.length<=36->Y1 l0->(∀ a b c:qa,a.length<=65536->b.length<=65536->c.length<=65536->(L a b c).length<=36/\Y1 (L a b c))-> ∀v:qa×Bool,v.1.length<=65536->
   qB (if v.2=true then kG v.1 47>>=fun a=>bX v.1 (IntKind.i64.wrap (a+(1:Int)))>>=fun r=>kG r 46>>=fun b=>if(decide (b>(0:Int)))=true then kx r b>>=fun r1=>kx v.1 (if (0:Int)>a then(0:Int)else a)>>=fun r2=>if qg n 32=true then if qg (n+env.l.length) 32=true then some ((⟨false,L r r1 r2++env.l⟩:Sl qt),(0:Int))else none else none else kx v.1 (if (0:Int)>a then(0:Int)else a)>>=fun r2=>if qg n 32=true then if qg (n+env.l.length) 32=true then some ((⟨false,L r r r2++env.l⟩:Sl qt),(0:Int))else none else none else if qg (m+env.l.length) 32=true then some ((⟨false,l0++env.l⟩:Sl qt),(0:Int))else none) (fun v=>v.1.l.length<=100/\Y1 v.1.l):=by
  intro m n l0 L hm hn hl hv hL v Qn;refine .ite (fun _=>?_) fun _=>ZH m l0 hm hl hv;refine .bind (Gj v.1 (by omega) 47) fun a ha=>?_;rw[wi (n:=a+1)];refine .bind .bX fun r hr=>?_;have Tp:=hr.2;refine .bind (Gj r (by omega) 46) fun b hb=>?_;have dir:qB (kx v.1 (if (0:Int)>a then(0:Int)else a)) (fun z=>z.length<=65536):=qB.mono (qB.kx (by split<;>omega) (by split<;>omega)) fun z hz=>by have:=hz.2;split at this<;>omega
  refine .ite (fun c=>?_) fun _=>?_
  ·simp only[decide_eq_true_eq]at c;refine .bind .kx fun r1 h1=>?_;have h1l:=h1.2;refine .bind dir fun r2 h2=>qB.zm qC ?_;exact ZH n _ hn (hL r r1 r2 (by omega) (by omega) h2).1 (hL r r1 r2 (by omega) (by omega) h2).2
  refine .bind dir fun r2 h2=>qB.zm qC ?_;exact ZH n _ hn (hL r r r2 (by omega) (by omega) h2).1 (hL r r r2 (by omega) (by omega) h2).2
 have dig: ∀n:Int,0<=n->n<=65537->qB (jE n) (fun v=>v.length<=65538):=fun n a b=>qB.mono (NM n a (by omega)) fun v hv=>by omega
 have get:=fun n=>Th n env he;rw[hk]at lines |-;refine .ite (fun c=>?_) fun c=>?_
 ·simp only[decide_eq_true_eq]at c;refine .bind .kb fun r7 h7=>qB.zm qC ?_;have h7l:=h7.2;refine lines fun v r Yv Qn hr=>?_;refine .zm qC ?_;refine .bind (placeA s hs env _ x _ _ _ _ _ k (by omega)) fun a ha=>?_;refine .bind (placeB s hs env _ x _ _ _ _ a (s.length-k) k (by omega)) fun b hb=>?_;rw[wi (n:=v.1+1)];refine .ite (fun c2=>?_) fun c2=>?_
  ·simp only[decide_eq_true_eq]at c2;refine .bind .kb fun w hw=>?_;have hwl:=hw.2;refine .zm qC ?_;refine .bind (dig _ Yv (by omega)) fun d1 h1=>?_;refine .bind (dig _ (by omega) (by omega)) fun d2 h2=>?_;refine .zm qC ?_;refine .bind (get _) fun g hg=>?_;exact TT _ _ _ (fun a b c=>_) (by omega) (by omega) (by simp) (by repeat (first|refine pB (by simp only;omega) ?_|exact fun p hp=>absurd hp (by simp))) (fun a b c ha hb hc=>⟨by simp,(by repeat (first|refine pB (by simp only;omega) ?_|exact fun p hp=>absurd hp (by simp)))⟩) g hg
  refine .bind (dig _ Yv (by omega)) fun d1 h1=>?_;refine .bind (dig _ (by omega) (by omega)) fun d2 h2=>?_;refine .zm qC ?_;refine .bind (get _) fun g hg=>?_;exact TT _ _ _ (fun a b c=>_) (by omega) (by omega) (by simp) (by repeat (first|refine pB (by simp only;omega) ?_|exact fun p hp=>absurd hp (by simp))) (fun a b c ha hb hc=>⟨by simp,(by repeat (first|refine pB (by simp only;omega) ?_|exact fun p hp=>absurd hp (by simp)))⟩) g hg
 skip
 refine lines fun v r Yv Qn hr=>?_;refine .zm qC ?_;refine .bind (placeA2 s hs env _ x _ _ _ _ k (by omega)) fun a ha=>?_;refine .bind (placeB2 s hs env _ x _ _ _ a (s.length-k) k (by omega)) fun b hb=>?_;rw[wi (n:=v.1+1)];refine .ite (fun c2=>?_) fun c2=>?_
 ·simp only[decide_eq_true_eq]at c2;refine .bind .kb fun w hw=>?_;have hwl:=hw.2;refine .zm qC ?_;refine .bind (dig _ Yv (by omega)) fun d1 h1=>?_;refine .bind (dig _ (by omega) (by omega)) fun d2 h2=>?_;refine .zm qC ?_;refine .bind (get _) fun g hg=>?_;exact TT _ _ _ (fun a b c=>_) (by omega) (by omega) (by simp) (by repeat (first|refine pB (by simp only;omega) ?_|exact fun p hp=>absurd hp (by simp))) (fun a b c ha hb hc=>⟨by simp,(by repeat (first|refine pB (by simp only;omega) ?_|exact fun p hp=>absurd hp (by simp)))⟩) g hg
 refine .bind (dig _ Yv (by omega)) fun d1 h1=>?_;refine .bind (dig _ (by omega) (by omega)) fun d2 h2=>?_;refine .zm qC ?_;refine .bind (get _) fun g hg=>?_;exact TT _ _ _ (fun a b c=>_) (by omega) (by omega) (by simp) (by repeat (first|refine pB (by simp only;omega) ?_|exact fun p hp=>absurd hp (by simp))) (fun a b c ha hb hc=>⟨by simp,(by repeat (first|refine pB (by simp only;omega) ?_|exact fun p hp=>absurd hp (by simp)))⟩) g hg
end
end Xr
namespace Xr
theorem Ma(s:qa)(hs:s.length<=65536)(line:Int):qB (sr s line) (fun v=>v.1.length<=65536):=by
 have loop: ∀(f:Int)(d k:Nat),k+d=s.length->qB (wO (s,f,(k:Int))) (fun v=>k<=v/\v<=s.length):=by
  intro f d;induction d with
  |zero=>intro k h;rw[wO.eq_1,if_neg (by simp;omega)];exact .ret ⟨by omega,by omega⟩
  |succ d ih=>
   intro k h;obtain⟨b,hb⟩:=gl (l:=s) (k:=k) (by omega);have k1:=ih (k+1) (by omega);rw[wO.eq_1,if_pos (by simp;omega),ws (by omega)];refine .go (gi hb) ?_;exact .ite (fun _=>qB.mono k1 fun v hv=>⟨by omega,hv.2⟩) fun _=>qB.ite (fun _=>qB.mono k1 fun v hv=>⟨by omega,hv.2⟩) fun _=> .ret ⟨by omega,by omega⟩
 unfold sr;obtain⟨a,b,c,g1,_,g3,g4,g5,_⟩:=og s (by omega) line;refine .go g1 ?_;refine .ite (fun _=> .ret (by simp)) fun _=>?_;obtain⟨k,rfl⟩: ∃k:Nat,a=k:=⟨a.toNat,by omega⟩;refine .bind (loop k (s.length-k) k (by omega)) fun v hv=>?_;refine .bind (qB.kb (by simp only;omega) (by simp only;omega) (by omega)) fun r hr=> .ret ?_;have:=hr.2;simp only at this |-;omega
structure Wz (q:List qx) (es:List qo) (uR:List (Sl qu)):Prop where
 le:es.length=uR.length
 each: ∀(j:Nat) e,es[j]? =some e-> ∃x m,q[j]? =some x/\uR[j]? =some m/\e.span=yU x/\Na e.text m.l
theorem Wz.Uk{q:List qx}{es:List qo}{uR:List (Sl qu)}(h:Wz q es uR){x:qx}(hx:q[es.length]? =some x){t:qa}{m:Sl qu}(hm:Na t m.l):Wz q (es++[⟨yU x,t⟩]) (uR++[m]):=by
 have hle:=h.le;refine⟨by simp[hle],fun j e he=>?_⟩;by_cases c:j<es.length
 ·rw[List.getElem?_append_left c]at he;obtain⟨y,z,a,b,c1,d⟩:=h.each j e he;exact tW
 exact tW
theorem C8{st:qr}(h:wR st)(l:Sl qA)(hl:qK (l.l.map ml)<=8192002){env:Sl qt}(he:VT env)(unit:qa)(hu:unit.length<=65536)(t6:qr): ∀(r:List qx)(i:Nat)(es:List qo)(uR:List (Sl qu)),st.xF.l.drop i=r->es.length=i->Wz st.xF.l es uR->
  qB (vC (l,env,unit,(i:Int),st,t6,es,uR)) (fun v=>match v with| .inl y=>y.1≠0| .inr y=>y.1.length=st.xF.l.length/\Wz st.xF.l y.1 y.2):=by
 have h64:=h.may.Wi;have ht:=h.may.text;intro r;induction r with
 |nil=>
  intro i es uR h0 h1 h2;have:=zc h0;rw[vC.eq_1,if_neg (by simp;omega)];refine .ret ⟨?_,h2⟩;cases rS:es.length with
  |zero=>omega
  |succ k=>
   obtain⟨e,hee⟩:=gl (l:=es) (k:=k) (by omega);obtain⟨x,m,a,_⟩:=h2.each k e hee;have:=(qG a).1;omega
 |cons x r ih=>
  intro i es uR h0 h1 h2;obtain⟨g1,g2,g3⟩:=zp h0;have hx:=h.may.XK x (qX g1);have hle:=h2.le;rw[vC.eq_1,if_pos (by simp;omega),ws (by omega)];refine .go (gi g1) ?_;refine .go (X4 x) ?_;refine .bind (GS ht he x hx.1 hx.2) fun v hv=>?_;refine .bind (Nu st.text (by omega) (yU x).qO) fun a _=>?_;refine .bind (Ma st.text ht a.1) fun ld hld=>?_;refine .bind (Nb ⟨by have:=hv.1;omega,hv.2,by omega,by omega⟩ l hl) fun m hm=>?_;refine .ite (fun c=> .ret (by simpa using c)) fun c=>?_;refine .zm qC (qB.zm qC ?_);exact ih (i+1) _ _ g2 (by simp[h1]) (h2.Uk (by rw[h1];exact g1) (hm (by simpa using c)))
structure N9 (i:qw):Prop where
 BM: ∃H:Int->Int->Prop,aW H (-1) i.span.qO i.span.to 0 i.stops.l
 len:i.stops.l.length<=257
 stop: ∀x∈i.stops.l,mf x
 free: ∃x∈i.stops.l,x.qJ=false
def Q1:Int->Int->List qw->Prop
 |lo,hi,[]=>lo<=hi
 |lo,hi,i::l=>lo<=i.span.qO/\N9 i/\Q1 i.span.to hi l
theorem Q1.le: ∀{l:List qw}{lo hi:Int},Q1 lo hi l->lo<=hi:=by
 intro l;induction l with
 |nil=>intro lo hi h;exact h
 |cons i l ih=>
  intro lo hi h;obtain⟨H,hL⟩:=h.2.1.BM;have:=Go.Proofs.YtmllebdamdnhoaaGreat.aW.le hL;have:=ih h.2.2;have:=h.1;omega
theorem Q1.each: ∀{l:List qw}{lo hi:Int},Q1 lo hi l-> ∀(a:Nat) i,l[a]? =some i->lo<=i.span.qO/\i.span.to<=hi/\N9 i/\ ∀(b:Nat) j,a<b->l[b]? =some j->i.span.to<=j.span.qO:=by
 intro l;induction l with
 |nil=>intro lo hi h a i ha;simp at ha
 |cons i l ih=>
  intro lo hi h a j ha;obtain⟨H,hL⟩:=h.2.1.BM;have h1:=Go.Proofs.YtmllebdamdnhoaaGreat.aW.le hL;cases a with
  |zero=>
   simp only[List.getElem?_cons_zero,kX]at ha;subst ha;refine⟨h.1,Q1.le h.2.2,h.2.1,fun b k hb hk=>?_⟩;cases b with
   |zero=>omega
   |succ b=>exact(ih h.2.2 b k (by simpa using hk)).1
  |succ a=>
   obtain⟨a1,a2,a3,a4⟩:=ih h.2.2 a j (by simpa using ha);refine⟨by have:=h.1;omega,a2,a3,fun b k hb hk=>?_⟩;exact tW
theorem Q1.may{l:List qw}{hi:Int}(h:Q1 0 hi l):cx l hi:=by
 refine⟨fun a i ha=>?_,fun a b i j eN ha hb=>(Q1.each h a i ha).2.2.2 b j eN hb⟩;obtain⟨h1,h2,h3,_⟩:=Q1.each h a i ha;obtain⟨H,hL⟩:=h3.BM;exact lay_may hL h1 h2
def Ch(n:Int):Int->List qo->Prop
 |p,[]=>p<=n
 |p,e::r=>p<=e.span.qO/\e.span.qO<=e.span.to/\Ch n e.span.to r
theorem Ca(es:Sl qo)(fO:Int)(i:Nat)(qk:Int)(b0 t6:qr)(uR:List (Sl qu))(w:qa)(w2:Sl qx)(r7:List qc)(r8:Sl (Sl (Sl Int)))(s:Int)(F1:List qw)(in1 in2:Int)(m:Sl qu)(hm:uR[i]? =some m)(JJ:m.l.length<=257)(ha:0<=qk/\qk<=2^40)(hb: ∀x∈m.l,0<=x.span.qO/\x.span.qO<=x.span.to/\x.span.to<=65536):
  ∀(q:List qu)(k:Nat)(out:List qu),m.l.drop k=q->out.length=k->vE (es,fO,(i:Int),qk,(k:Int),b0,t6,uR,w,w2,r7,r8,s,F1,in1,in2,out)=some (out++q.map (lL qk)):=by
 intro q;induction q with
 |nil=>
  intro k out h0 h1;have:=zc h0;rw[vE.eq_1,gi hm];simp only[xe,z7];rw[if_neg (by simp;omega)];simp
 |cons x q ih=>
  intro k out h0 h1;obtain⟨g1,g2,g3⟩:=zp h0;have hx:=hb x (qX g1);rw[vE.eq_1,gi hm];simp only[xe,z7];rw[if_pos (by simp;omega),gi g1];simp only[z7];rw[if_pos qC,ws (by omega),wi (n:=x.span.qO+qk),wi (n:=x.span.to+qk),ih (k+1) _ g2 (by simp;omega)];simp[lL]
theorem C9(n:Int)(hn:0<=n/\n<=65536)(es:Sl qo)(hl:es.l.length<=64)(b0 t6:qr)(q:List qx)(uR:List (Sl qu))(hM:Wz q es.l uR)(w:qa)(w2:Sl qx)(r7:List qc)(r8:Sl (Sl (Sl Int)))(s:Int): ∀(r:List qo)(i:Nat)(fO p:Int)(F1:List qw),es.l.drop i=r->i<=64->Ch n p r->0<=p->0<=p+fO-> -(i:Int)*65536<=fO->fO<=(i:Int)*65536->F1.length=i->
  qB (vD (es,fO,(i:Int),b0,t6,uR,w,w2,r7,r8,s,F1)) (fun v=> ∃l,v=F1++l/\l.length=r.length/\Q1 (p+fO) (n+fO+tw r) l):=by
 intro r;induction r with
 |nil=>
  intro i fO p F1 h0 hi hc _ _ _ _ _;have:=zc h0;rw[vD.eq_1,if_neg (by simp;omega)];refine .ret ⟨[],by simp,rfl, ?_⟩;simp only[Q1,tw,List.map_nil,List.sum_nil];have:p<=n:=hc;omega
 |cons e r ih=>
  intro i fO p F1 h0 hi hc hp hpb Yq hb2 hr;obtain⟨g1,g2,g3⟩:=zp h0;obtain⟨x,m,_,hm,_,WZ⟩:=hM.each i e g1;obtain⟨c1,c2,c3⟩:=hc;have hcn: ∀(r:List qo)(p:Int),Ch n p r->p<=n:=by
   intro r;induction r with
   |nil=>intro p h;exact h
   |cons e r ih=>intro p h;have h1:=ih _ h.2.2;have:=h.1;have:=h.2.1;omega
  have hen:=hcn r _ c3;have htl:=WZ.len;obtain⟨H,hL,_⟩:=WZ.BM;rw[vD.eq_1,if_pos (by simp;omega),ws (by omega)];refine .go (gi g1) ?_;rw[wi (n:=e.span.qO+fO)];refine .go (Ca es fO i _ b0 t6 uR w w2 r7 r8 s F1 _ _ m hm WZ.many.2 ⟨by omega,by omega⟩ (fun y hy=>?_) m.l 0 [] rfl rfl) ?_
  ·obtain⟨k,hk⟩:=jz hy;have:=LayX.w6 hL (by omega) k y hk;exact⟨this.lo,this.le,by have:=this.hi;omega⟩
  refine .zm qC ?_;rw[wi (n:=e.span.qO+fO+(e.text.length:Int)),wi (n:=fO+(e.text.length:Int)),wi (n:=e.span.to-e.span.qO),wi (n:=fO+(e.text.length:Int)-(e.span.to-e.span.qO))];have hLs:=LayX.shift hL (e.span.qO+fO);simp only[List.nil_append];refine .mono (ih (i+1) _ e.span.to _ g2 (by omega) c3 (by omega) (by omega) (by push_cast;omega) (by push_cast;omega) (by simp[hr])) fun v hv=>?_;obtain⟨l,l1,l2,l3⟩:=hv;refine⟨_::l,by rw[l1,List.append_assoc];rfl,by simp[l2],⟨by simp only;omega,⟨⟨H, ?_⟩, ?_,fun y hy=>?_, ?_⟩, ?_⟩⟩
  ·simp only;rw[show (0:Int)+(e.span.qO+fO)=e.span.qO+fO from by omega,show((e.text.length:Int)+(e.span.qO+fO))=e.span.qO+fO+e.text.length from by omega]at hLs;exact hLs
  ·simp only[List.length_map];exact WZ.many.2
  ·obtain⟨z,hz,rfl⟩:=List.mem_map.1 hy;exact WZ.qP z hz
  ·obtain⟨z,hz,h⟩:=WZ.free;exact⟨lL _ z,List.mem_map.2 ⟨z,hz,rfl⟩,h⟩
  simp only;rw[show e.span.qO+fO+(e.text.length:Int)=e.span.to+(fO+e.text.length-(e.span.to-e.span.qO))from by omega];rw[show n+fO+tw (e::r)=n+(fO+e.text.length-(e.span.to-e.span.qO))+tw r from by simp only[tw,List.map_cons,List.sum_cons,gE];omega];exact l3
end Xr
namespace Xr
theorem Ll{w:World}(hu:WK w){y:List qc}(hy:Fin w.1.length w.2.2.1 y)(h8:w.2.2.1.length<=8):wR ⟨w.1,w.2.1,⟨false,y⟩⟩:=by
 have lY:=hy.Jo.1;refine⟨⟨hu.text,by simp only;omega,hu.ok.ne,hu.ok.Wi,hu.ok.XK,hu.ok.T8,hy.ok.may,fun j s hs=>?_⟩,hy.ok.small,hy.ok.stop,fun s hs=>?_⟩
 ·have:=hy.closed j s (qG hs).1 hs;exact⟨this.1,this.2.2⟩
 obtain⟨j,hj⟩:=jz hs;exact(hy.closed j s (qG hj).1 hj).2.1
theorem Aw{n:Nat}{q:List qx}(hi:JQ n q)(ha:PU q): ∀(es:List qo)(j:Nat)(p:Int),(∀(k:Nat) e,es[k]? =some e-> ∃x,q[j+k]? =some x/\e.span=yU x)->p<=n->(∀ x,q[j]? =some x->p<=(yU x).qO)->Ch n p es:=by
 intro es;induction es with
 |nil=>intro j p _ h _;exact h
 |cons e es ih=>
  intro j p h hp hx0;obtain⟨x,hx,he⟩:=h 0 e (by simp);have hxi:=hi x (qX hx);have hle:=fK x;refine⟨by rw[he];exact hx0 x hx,by rw[he];exact hle,ih (j+1) _ (fun k e' h' =>?_) (by rw[he];exact hxi.2) fun y hy=>?_⟩
  ·obtain⟨y,hy,h2⟩:=h (k+1) e' (by simpa using h');exact⟨y,by rw[show j+1+k=j+(k+1)from by omega];exact hy,h2⟩
  rw[he];obtain⟨a1,a2⟩:=qG hx;obtain⟨b1,b2⟩:=qG hy;have:=List.pairwise_iff_getElem.1 ha j (j+1) a1 b1 (by omega);simp only[Nat.add_zero]at a2;rw[a2,b2]at this;omega
theorem IB{w:World}(hw:WK w)(s:qc)(hs:jX s)(hm:cx s.insts.l w.1.length)(hk: ∀i∈s.insts.l,∀ x∈i.stops.l,mf x)(h8:w.2.2.1.length<8):qB (hJ s w.1 w.2.1 w.2.2.1 w.2.2.2) (fun v=>v.1=w.2.2.1++[s]/\WK (w.1,w.2.1,v.1,v.2)):=by
 obtain⟨f,f1,f2⟩:=ZI s hs;have Z7:=hw.ok.Jz;unfold hJ;refine .zm qC (qB.go f1 (qB.zm qC (.ret ⟨rfl,⟨?_,hw.text⟩⟩)));have tR: ∀{P:qc->Prop},(∀ x∈w.2.2.1,P x)->P s-> ∀x∈w.2.2.1++[s],P x:=by
  intro P h1 h2 x hx;rcases List.mem_append.1 hx with hx|hx
  ·exact h1 x hx
  simp only[List.mem_singleton]at hx;subst hx;exact h2
 refine⟨hw.ok.blen,hw.ok.ne,hw.ok.Wi,hw.ok.T8,hw.ok.XK,by simp;omega,tR hw.ok.small hs,tR hw.ok.may hm,by simp[Z7],fun _=>rfl,fun j x g hx hg=>?_,tR hw.ok.stop hk⟩;by_cases c:j<w.2.2.1.length
 ·rw[List.getElem?_append_left c]at hx;simp only at hg;rw[List.getElem?_append_left (by omega)]at hg;exact hw.ok.each j x g hx hg
 have hj:=(qG hx).1;simp only[List.length_append,List.length_singleton]at hj;have:j=w.2.2.1.length:=by omega
 subst this;rw[List.getElem?_append_right (xJ _)]at hx;simp only at hg;rw[List.getElem?_append_right (by omega),Z7]at hg;simp only[Nat.sub_self,List.getElem?_cons_zero,kX]at hx hg;subst hx;rw[<- hg];exact f2
theorem Md{st:qr}(h:wR st)(l:Sl qA)(hl:qK (l.l.map ml)<=8192002){env:Sl qt}(he:VT env):qB (tc st l env) (fun v=>v.2=0->wR v.1):=by
 have ht:=h.may.text;have h64:=h.may.Wi;have bU:=List.length_pos_iff.2 h.may.ne;unfold tc;refine JZ h ?_;rw[if_neg (by simp)];refine .bind (WA l (by omega)) fun a _=>?_;refine .ite (fun _=> .ret fun h0=>absurd h0 (by decide)) fun _=>?_;refine .bind (Th _ env he) fun u hu=>?_;refine .bind (C8 h l hl he u.1 hu _ st.xF.l 0 [] [] rfl rfl ⟨rfl,by simp⟩) fun v hv=>?_;rcases v with v|v
 ·exact .ret fun h0=>absurd h0 hv
 obtain⟨es,uR⟩:=v;obtain⟨v1,hM⟩:=hv;simp only at v1 hM |-;have hT:wu es<=es.length*65536:=Ur es 65536 fun e hee=>by
  obtain⟨k,hk⟩:=jz hee;obtain⟨x,m,_,_,_,hm⟩:=hM.each k e hk;exact hm.len
 have hT2:es.length*65536<=64*65536:=mulR _ (by omega);refine .bind (TH (st.text.length:Int) (by omega) ⟨es.isEmpty,es⟩ (by simp only;omega) (by simp only;omega)) fun c hc=>?_;refine .ite (fun c0=> .ret fun h0=>absurd h0 (by simpa using c0)) fun c0=>?_;obtain⟨e1,e2⟩:=hc (by simpa using c0);simp only at e1 e2;obtain⟨fl,b1,b2⟩:=Hz st h;refine .go b1 ?_;refine .bind (rU (st.text,⟨false,st.xF.l⟩,st.qj.l,fl) b2.ok ht ⟨es.isEmpty,es⟩ e1 (by simp only;omega) (by simp only;omega)) fun w hw=>?_;have hwt:=hw.text;simp only at hwt;refine .ite (fun _=> .ret fun h0=>absurd h0 (by decide)) fun c1=>?_;have hw8:w.2.2.1.length<8:=by simp only[decide_eq_true_eq]at c1;omega
 have W7:Ch st.text.length 0 es:=Aw (n:=st.text.length) h.may.XK h.may.T8 es 0 0 (fun k e hk=>by
  obtain⟨x,m,a,_,b,_⟩:=hM.each k e hk
  exact⟨x,by rw[Nat.zero_add];exact a,b⟩) (by omega) fun x hx=>(h.may.XK x (qX hx)).1
 refine .bind (C9 st.text.length ⟨by omega,by omega⟩ ⟨es.isEmpty,es⟩ (by simp only;omega) st _ st.xF.l uR hM w.1 w.2.1 w.2.2.1 w.2.2.2 0 es 0 0 0 [] rfl (by omega) W7 (by omega) (by omega) (by omega) (by omega) rfl) fun is his=>?_;obtain⟨BL,i1,i2,i3⟩:=his;simp only[List.nil_append]at i1;subst i1;rw[show (0:Int)+0=0 from rfl,show(st.text.length:Int)+0+tw es=w.1.length from by omega]at i3;have hism:=Q1.may i3;have hisl:is.length<=64:=by omega
 have Ec: ∀i∈is,N9 i:=fun i hi=>by
  obtain⟨k,hk⟩:=jz hi;exact(Q1.each i3 k i hk).2.2.1
 have hb: ∀i∈is,i.stops.l.length<=2^12:=fun i hi=>by have:=(Ec i hi).len;omega
 refine .bind (iQ ⟨is.isEmpty,is⟩ hb (by simp only;omega)) fun ns SY=>?_;have jv:ns.l≠[]:=by
  refine SY.2 ?_;obtain⟨i,hi⟩:=gl (l:=is) (k:=0) (by omega);exact⟨i,qX hi,(Ec i (qX hi)).free⟩
 have hnpos:=List.length_pos_iff.2 jv;obtain⟨x,hx⟩:=gl (l:=ns.l) (k:=0) hnpos;refine .go (gi hx) ?_;have hxs:vU x is≠[]:=SY.1.of x (qX hx);have hWK:WK w:=⟨hw.ok,by omega⟩;refine .bind (IB hWK ⟨x,⟨is.isEmpty,is⟩⟩ ⟨by simp only;omega,hb⟩ hism (fun i hi=>(Ec i hi).stop) hw8) fun p hp=>?_;obtain⟨p1,p2⟩:=hp;have hplen:p.1.length=w.2.2.1.length+1:=by rw[p1];simp
 refine .bind (K2 (w.1,w.2.1,p.1,p.2) p2) fun u hu=>?_;refine .ite (fun c1=> .ret fun h0=>absurd h0 (by simpa using c1)) fun c1=>?_;rcases hu with hu|⟨_,hu,hlk⟩
 ·exact absurd (by simpa using c1) hu
 have hulen:u.2.2.2.1.length=p.1.length:=hlk.len;have ent: ∀y,Fin u.2.1.length u.2.2.2.1 y->qB (if (decide ((y.length:Int)<(p.1.length:Int)))=true then some ((qr.mk u.2.1 u.2.2.1 (⟨false,y⟩:(Sl qc))),(0:Int))else nC u.2.1 u.2.2.1 x y>>=fun oN=>some (oN.1,oN.2)) (fun v=>v.2=0->wR v.1):=by
  intro y hy;have Eu:=Ll hu hy (by omega);refine .ite (fun _=> .ret fun _=>Eu) fun c2=>?_;have Ew:y.length=p.1.length:=by
   have:=hy.Jo.1;simp only[decide_eq_true_eq]at c2;omega
  refine .bind (SC Eu x (fun z hz hzl=>?_) (by intro e;simp only at e;rw[e]at Ew;simp at Ew;omega)) fun v hv=> .ret hv;obtain⟨s,s1,s2⟩:=hy.Jo.2 _ z hzl;have hidx:y.length-1=w.2.2.1.length:=by omega
  obtain⟨s',t1,t2⟩:=hlk.cur w.2.2.1.length ⟨x,⟨is.isEmpty,is⟩⟩ (by simp only[p1];rw[List.getElem?_append_right (xJ _)];simp);simp only at s1;rw[hidx]at s1;have t1' :u.2.2.2.1[w.2.2.1.length]? =some s' :=t1;rw[s1]at t1';cases t1';have:z.cur=x:=s2.trans t2;rw[<- this];exact Eu.Jo z hz
 refine .bind (WH u.2 hu.ok) fun y hy=>?_;rcases y with y|y
 ·exact ent y hy
 exact ent y hy
end Xr
namespace Xr
theorem bL(b:UInt8):qB (kj b) (fun _=>True):=by unfold kj;split<;>exact .ret trivial
theorem mO(b:UInt8):qB (wx b) (fun _=>True):=by unfold wx;(repeat' split)<;>exact .ret trivial
theorem K4(s:qa):qB (j9 s) (fun _=>True):=by
 have loop:s.length<=64-> ∀(d k:Nat),k+d=s.length->qB (xG (s,(k:Int))) (fun _=>True):=by
  intro hs d;induction d with
  |zero=>intro k h;rw[xG.eq_1,if_neg (by simp;omega)];exact .ret trivial
  |succ d ih=>
   intro k h;obtain⟨b,hb⟩:=gl (l:=s) (k:=k) (by omega);have k1:=ih (k+1) (by omega);rw[xG.eq_1,if_pos (by simp;omega),ws (by omega)];refine .go (gi hb) ?_;refine .bind (mO b) fun v _=>?_;refine .ite (fun _=>qB.ite (fun _=>qB.ite (fun _=> .ret trivial) fun _=>?_) fun _=>k1) fun _=>k1;refine .bind (bL b) fun v _=>?_;exact .ite (fun _=> .ret trivial) fun _=>k1
 unfold j9;refine .ite (fun _=> .ret trivial) fun c=>?_;simp only[Bool.or_eq_true,decide_eq_true_eq,not_or]at c;refine .bind (loop (by omega) s.length 0 (by omega)) fun v _=>?_;rcases v with v|v<;>exact .ret trivial
theorem set_tot(name value:qa){env:Sl qt}(he:VT env):qB (cm name value env) (fun v=>v.2=0->VT v.1):=by
 have hl:=he.len;unfold cm;refine .bind (K4 name) fun a _=>?_;refine .ite (fun _=> .ret fun h0=>absurd h0 (by decide)) fun _=>?_;refine .ite (fun _=> .ret fun h0=>absurd h0 (by decide)) fun c=>?_;have hv:value.length<=65536:=by simp only[decide_eq_true_eq]at c;omega
 refine .zm qC ?_;have loop: ∀(d k:Nat),k+d=env.l.length->qB (gR (name,value,(k:Int),env.l)) (fun v=>match v with| .inl y=>y.1=0->VT ⟨false,y.2⟩| .inr _=>True):=by
  intro d;induction d with
  |zero=>intro k h;rw[gR.eq_1,if_neg (by simp;omega)];exact .ret trivial
  |succ d ih=>
   intro k h;obtain⟨x,hx⟩:=gl (l:=env.l) (k:=k) (by omega);rw[gR.eq_1,if_pos (by simp;omega),ws (by omega)];refine .go (gi hx) ?_;refine .ite (fun _=> .ret fun _=>⟨by simp;omega,fun p hp=>?_⟩) fun _=>ih (k+1) (by omega);rcases List.mem_or_eq_of_mem_set hp with hp|rfl
   ·exact he.val p hp
   exact hv
 refine .bind (loop env.l.length 0 (by omega)) fun v DS=>?_;rcases v with v|v
 ·exact .ret DS
 refine .ite (fun _=> .ret fun h0=>absurd h0 (by decide)) fun c2=>?_;have xB:env.l.length<64:=by simp only[decide_eq_true_eq]at c2;omega
 refine .zm qC (.ret fun _=>⟨by simp;omega,fun p hp=>?_⟩);rcases List.mem_append.1 hp with hp|hp
 ·exact he.val p hp
 simp only[List.mem_singleton]at hp;subst hp;exact hv
structure S2 (o:gy):Prop where
 text:o.text.length<=65536
 es:o.edits.l.length<=10
 et:wu o.edits.l<=2^60
 qs:o.xF.l.length<2^60
theorem Pz{b:qa}{q:Sl qx}{ss:Sl qc}(h:wR ⟨b,q,ss⟩){env:Sl qt}(he:VT env){o:gy}(ho:S2 o)(r r2:Sl qr):qB (yP o b q ss env r r2) (fun v=>v.2.2=0->wR v.1):=by
 have ht:b.length<=65536:=h.may.text;have h64:q.l.length<=64:=h.may.Wi;have sG:JQ b.length q.l:=h.may.XK;have hD: ∀es:Sl qo,es.l.length<=2^19->wu es.l<=2^60->qB (t8 (qr.mk b q ss) es>>=fun v=>some (v.1,true,v.2)) (fun v=>v.2.2=0->wR v.1):=fun es h1 h2=>qB.bind (HQ _ h es h1 h2) fun v hv=> .ret fun h0=>by
  rcases hv with hv|⟨_,hv,_⟩
  ·exact absurd h0 hv
  exact hv
 have hF: ∀{p:Option (qr×Int)},qB p (fun v=>v.2=0->wR v.1)->qB (p>>=fun v=>some (v.1,true,v.2)) (fun v=>v.2.2=0->wR v.1):=fun hp=>qB.bind hp fun v hv=> .ret hv;unfold yP;refine .ite (fun _=>?_) fun _=>?_
 ·refine .bind (DA q o.text h64 ho.text) fun v hv=>hD v (by have:=hv.1;omega) (by have:=hv.2;omega)
 refine .ite (fun _=>?_) fun _=>?_
 ·have:= @NP;exact tW
 refine .ite (fun _=>hD o.edits (by have:=ho.es;omega) ho.et) fun _=>?_;refine .ite (fun _=>qB.bind (aa (b.length:Int) o.xF ho.qs) fun v hv=> .ret fun h0=>wR.sel h (hv h0)) fun _=>?_;refine .ite (fun _=>qB.bind (go_tot b (by omega) o.n o.extend q (by omega)) fun v hv=> .ret fun h0=>wR.sel h (hv h0)) fun _=>?_;refine .ite (fun _=>?_) fun _=>?_
 ·refine .bind (MS o.text) fun v hv=>?_;refine .ite (fun _=>hF (Md h v.1 hv.1 he)) fun c=> .ret fun h0=>absurd h0 (by simpa using c)
 have:= @Mw;have:= @MN;have:= @Gl;have:= @Yd;exact tW
structure MW (b:qa) (q:Sl qx) (ss:Sl qc) (env:Sl qt) (r r2:Sl qr) (n:Nat):Prop where
 Uw:wR ⟨b,q,ss⟩
 env:VT env
 behind: ∀s∈r.l,wR s
 ahead: ∀s∈r2.l,wR s
 len:r.l.length<=n/\r2.l.length<=n
 nb:r.nil=true->r.l=[]
 na:r2.nil=true->r2.l=[]
theorem MW.mono{b:qa}{q:Sl qx}{ss:Sl qc}{env:Sl qt}{r r2:Sl qr}{n:Nat}(h:MW b q ss env r r2 n):MW b q ss env r r2 (n+1):=⟨h.Uw,h.env,h.behind,h.ahead,by have:=h.len;omega,h.nb,h.na⟩
theorem aQ{r:List qr}(h: ∀s∈r,wR s){x:qr}(hx:wR x): ∀s∈r++[x],wR s:=fun s hs=>by
 rcases List.mem_append.1 hs with hs|hs
 ·exact h s hs
 simp only[List.mem_singleton]at hs;subst hs;exact hx
theorem AE{b:qa}{q:Sl qx}{ss:Sl qc}{env:Sl qt}{r r2:Sl qr}{n:Nat}(h:MW b q ss env r r2 n)(hn:n<=50){o:gy}(ho:S2 o):qB (hQ o b q ss env r r2) (fun v=>match v with
  | .inl y=>MW y.2.1 y.2.2.1 y.2.2.2.1 y.2.2.2.2 r r2 (n+1)
  | .inr (.inl y)=>MW y.2.1 y.2.2.1 y.2.2.2.1 env y.2.2.2.2.2 y.2.2.2.2.1 (n+1)
  | .inr (.inr (.inl y))=>MW y.2.1 y.2.2.1 y.2.2.2.1 env y.2.2.2.2.1 y.2.2.2.2.2 (n+1)
  | .inr (.inr (.inr y))=>MW y.2.1 y.2.2.1 y.2.2.2.1 env y.2.2.2.2 ⟨true,[]⟩ (n+1)):=by
 have hm:=h.mono;have hl:=h.len;have z1: ∀s∈([]:List qr),wR s:=by simp
 have swap: ∀{l:Sl qr},(l.nil=true->l.l=[])->(∀ s∈l.l,wR s)->l.l.length≠0-> ∃(k:Nat)(x:qr),l.l.length=k+1/\l.nil=false/\IntKind.i64.wrap ((l.l.length:Int)-1)=(k:Int)/\qi l.l (k:Int)=some x/\kx l.l (k:Int)=some (l.l.take k)/\wR x/\(∀ s∈l.l.take k,wR s)/\(l.l.take k).length=k\/100<l.l.length:=by
  intro l hnl hw hk;by_cases c:100<l.l.length
  ·exact⟨0,qr.mk [] ⟨true,[]⟩ ⟨true,[]⟩,.inr c⟩
  obtain⟨k,hk⟩: ∃k:Nat,l.l.length=k+1:=⟨l.l.length-1,by omega⟩;obtain⟨x,hx⟩:=gl (l:=l.l) (k:=k) (by omega);refine⟨k,x,.inl ⟨hk, ?_, ?_,gi hx,Xg _ _ (by omega),hw x (qX hx),fun s hs=>hw s (List.mem_of_mem_take hs),by simp;omega⟩⟩
  ·cases e:l.nil
   ·rfl
   rw[hnl e]at hk;simp at hk
  rw[wi (n:=(l.l.length:Int)-1)];omega
 unfold hQ;refine .ite (fun _=>?_) fun _=>?_
 ·refine .bind (set_tot o.name o.text h.env) fun v hv=>?_;refine .ite (fun c=> .ret ⟨h.Uw,hv (by simpa using c),h.behind,h.ahead,hm.len,h.nb,h.na⟩) fun _=> .ret hm
 refine .ite (fun _=>?_) fun _=>?_
 ·refine .ite (fun _=> .ret hm) fun c=>?_;obtain⟨k,x,⟨hk,g0,gw,g1,g2,g3,g4,g5⟩|hc⟩:=swap h.nb h.behind (by intro e;rw[e]at c;simp at c)
  ·rw[gw];refine .ite (fun e=>?_) fun e=>?_
   ·rw[if_pos (by rw[h.na e];rfl)];refine .zm qC ?_;rw[if_neg (by simp[g0])];exact .go g1 (qB.go g2 (.ret ⟨g3,h.env,g4,aQ z1 h.Uw,by simp only[List.length_singleton];omega,by simp,by simp⟩))
   refine .zm qC ?_;rw[if_neg (by simp[g0])];exact .go g1 (qB.go g2 (.ret ⟨g3,h.env,g4,aQ h.ahead h.Uw,by simp only[List.length_append,List.length_singleton];omega,by simp,by simp⟩))
  omega
 refine .ite (fun _=>?_) fun _=>?_
 ·refine .ite (fun _=> .ret hm) fun c=>?_;obtain⟨k,x,⟨hk,g0,gw,g1,g2,g3,g4,g5⟩|hc⟩:=swap h.na h.ahead (by intro e;rw[e]at c;simp at c)
  ·rw[gw];refine .ite (fun e=>?_) fun e=>?_
   ·rw[if_pos (by rw[h.nb e];rfl)];refine .zm qC ?_;rw[if_neg (by simp[g0])];exact .go g1 (qB.go g2 (.ret ⟨g3,h.env,aQ z1 h.Uw,g4,by simp only[List.length_singleton];omega,by simp,by simp⟩))
   refine .zm qC ?_;rw[if_neg (by simp[g0])];exact .go g1 (qB.go g2 (.ret ⟨g3,h.env,aQ h.behind h.Uw,g4,by simp only[List.length_append,List.length_singleton];omega,by simp,by simp⟩))
  omega
 refine .bind (Pz h.Uw h.env ho r r2) fun v hv=>?_;refine .ite (fun _=> .ret hm) fun c=>?_;have hw:=hv (by simpa using c);refine .ite (fun _=>?_) fun _=> .ret ⟨hw,h.env,h.behind,h.ahead,hm.len,h.nb,h.na⟩;refine .zm qC (qB.zm qC ?_);rw[if_neg (by simp;omega)];refine .ret ⟨hw,h.env,aQ h.behind h.Uw,by simp, ?_,by simp,by simp⟩;simp only[List.length_append,List.length_singleton,List.length_nil];omega
theorem EP(n:Int)(hn:0<=n/\n<=1000)(ss:List qa)(hl:ss.length<=10):qB (fX n ss) (fun v=>v=false-> ∀s∈ss,(s.length:Int)<=n):=by
 have loop: ∀(r:List qa)(i:Nat)(m:Int),ss.drop i=r->0<=m->m<=n->qB (gB (m,(i:Int),ss)) (fun v=>match v with| .inl y=>y=true| .inr _=> ∀s∈r,(s.length:Int)<=n):=by
  intro r;induction r with
  |nil=>
   intro i m h _ _;have:=zc h;rw[gB.eq_1,if_neg (by simp;omega)];exact .ret (by simp)
  |cons x r ih=>
   intro i m h h0 h1;obtain⟨g1,g2,g3⟩:=zp h;rw[gB.eq_1,if_pos (by simp;omega),ws (by omega)];have:= @gi;have:= @wi;exact tW
 unfold fX;refine .bind (loop ss 0 n rfl hn.1 (by omega)) fun v hv=>?_;rcases v with v|v
 ·have hv' :v=true:=hv;exact .ret fun h=>by rw[hv']at h;cases h
 exact .ret fun _=>hv
theorem Gz(many n:Int)(hm:0<=many/\many<=100)(hn:0<=n/\n<=1000)(es:Sl qo):qB (c9 many n es) (fun v=>v=false->es.l.length<=many/\wu es.l<=n):=by
 unfold c9;refine .ite (fun _=> .ret (by simp)) fun c=>?_;simp only[decide_eq_true_eq]at c;have loop: ∀(r:List qo)(i:Nat)(m:Int),es.l.drop i=r->0<=m->m<=n->qB (gC (m,es,(i:Int))) (fun v=>match v with| .inl y=>y=true| .inr _=>(wu r:Int)<=m):=by
  intro r;induction r with
  |nil=>
   intro i m h _ _;have:=zc h;rw[gC.eq_1,if_neg (by simp;omega)];exact .ret (by simpa[wu])
  |cons x r ih=>
   intro i m h h0 h1;obtain⟨g1,g2,g3⟩:=zp h;rw[gC.eq_1,if_pos (by simp;omega),ws (by omega)];refine .go (gi g1) ?_;refine .ite (fun _=> .ret rfl) fun c=>?_;simp only[decide_eq_true_eq]at c;rw[wi (n:=m-(x.text.length:Int))];refine .mono (ih (i+1) _ g2 (by omega) (by omega)) fun v hv=>?_;rcases v with v|v
   ·exact hv
   simp only[wu,List.map_cons,List.sum_cons]at hv |-
   push_cast
   omega
 refine .bind (loop es.l 0 n rfl hn.1 (by omega)) fun v hv=>?_;rcases v with v|v
 ·have hv' :v=true:=hv;exact .ret fun h=>by rw[hv']at h;cases h
 have hv' :(wu es.l:Int)<=n:=hv;exact .ret fun _=>⟨by omega,hv'⟩
theorem ops_tot(many n:Int)(hm:0<=many/\many<=50)(hn:0<=n/\n<=1000)(os:Sl gy):qB (iM many n os) (fun v=>v=false->os.l.length<=many/\ ∀o∈os.l,S2 o):=by
 unfold iM;refine .ite (fun _=> .ret (by simp)) fun c=>?_;simp only[decide_eq_true_eq]at c;have l2: ∀(i:Nat)(x:gy),os.l[i]? =some x->x.edits.l.length<=10-> ∀(r:List qo)(k:Nat)(m:Int)(r0:List qa),x.edits.l.drop k=r->(wu r:Int)<=1000-> -5000+wu r<=m->m<=1000->qB (nr (m,os,(i:Int),(k:Int),r0)) (fun v=>v=m-wu r):=by
  intro i x hx hxl r;induction r with
  |nil=>
   intro k m r0 h _ _ _;have:=zc h;rw[nr.eq_1];refine .go (gi hx) ?_;rw[if_neg (by simp;omega)];exact .ret (by simp[wu])
  |cons e r ih=>
   intro k m r0 h h1 h2 h3;obtain⟨g1,g2,g3⟩:=zp h;have hs:(wu (e::r):Int)=e.text.length+wu r:=by simp[wu]
   rw[nr.eq_1];refine .go (gi hx) ?_;rw[if_pos (by simp;omega),ws (by omega)];refine .go (gi g1) ?_;rw[wi (n:=m-(e.text.length:Int))];exact .mono (ih (k+1) _ r0 g2 (by omega) (by omega) (by omega)) fun v hv=>by omega
 have loop: ∀(r:List gy)(i:Nat)(m:Int),os.l.drop i=r->0<=m->m<=n->qB (nq (m,os,(i:Int))) (fun v=>match v with| .inl y=>y=true| .inr _=> ∀o∈r,S2 o):=by
  intro r;induction r with
  |nil=>
   intro i m h _ _;have:=zc h;rw[nq.eq_1,if_neg (by simp;omega)];exact .ret (by simp)
  |cons x r ih=>
   intro i m h h0 h1;obtain⟨g1,g2,g3⟩:=zp h;rw[nq.eq_1,if_pos (by simp;omega),ws (by omega)];refine .go (gi g1) ?_;refine .bind (EP m ⟨h0,by omega⟩ [x.name,x.text] (by simp)) fun v hv=>?_;refine .ite (fun _=> .ret rfl) fun c1=>?_;have DT:=hv (by simpa using c1);have hname:=DT x.name (by simp);have htext:=DT x.text (by simp);refine .ite (fun _=> .ret rfl) fun c2=>?_;refine .ite (fun _=> .ret rfl) fun c3=>?_;simp only[decide_eq_true_eq]at c2 c3;refine .bind (Gz 10 m (by omega) ⟨h0,by omega⟩ x.edits) fun u hu=>?_;refine .ite (fun _=> .ret rfl) fun c4=>?_;obtain⟨u1,u2⟩:=hu (by simpa using c4);rw[wi (n:=m-(x.name.length:Int)),wi (n:=m-(x.name.length:Int)-(x.text.length:Int))];refine .bind (l2 i x g1 (by omega) x.edits.l 0 _ _ rfl (by omega) (by omega) (by omega)) fun w hw=>?_;refine .ite (fun _=> .ret rfl) fun c5=>?_;simp only[decide_eq_true_eq]at c5;refine .mono (ih (i+1) w g2 (by omega) (by omega)) fun z hz=>?_;rcases z with z|z
   ·exact hz
   intro o ho;rcases List.mem_cons.1 ho with rfl|ho
   ·exact⟨by omega,by omega,by omega,by omega⟩
   exact hz o ho
 refine .bind (loop os.l 0 n rfl hn.1 (by omega)) fun v hv=>?_;rcases v with v|v
 ·have hv' :v=true:=hv;exact .ret fun h=>by rw[hv']at h;cases h
 exact .ret fun _=>⟨by omega,hv⟩
theorem well0:wR ⟨[],⟨false,[⟨0,0⟩]⟩,⟨true,[]⟩⟩:=by
 refine⟨⟨by simp,by simp,by simp,by simp,fun x hx=>?_,by simp[PU],by simp,fun j s hs=>by simp at hs⟩,by simp,by simp,by simp⟩;simp only[List.mem_singleton]at hx;subst hx;exact⟨by decide,by decide⟩
theorem new_ok:aJ=some (.inr (0,[],⟨false,[⟨0,0⟩]⟩,⟨true,[]⟩,⟨true,[]⟩)):=by
 unfold aJ;rw[tg.eq_1,if_neg (by simp)];rfl
end Xr
namespace Xr
theorem Su(os:Sl gy)(hl:os.l.length<=40)(hO: ∀o∈os.l,S2 o)(t2:qr): ∀(r:List gy)(i:Nat)(b:qa)(q:Sl qx)(ss:Sl qc)(env:Sl qt)(r1 r2:Sl qr),os.l.drop i=r->MW b q ss env r1 r2 i->
  qB (ky (os,(i:Int),t2,b,q,ss,env,r1,r2)) (fun v=>wR ⟨v.1,v.2.1,v.2.2.1⟩):=by
 intro r;induction r with
 |nil=>
  intro i b q ss env r1 r2 h hw;have:=zc h;rw[ky.eq_1,if_neg (by simp;omega)];exact .ret hw.Uw
 |cons o r ih=>
  intro i b q ss env r1 r2 h hw;obtain⟨g1,g2,g3⟩:=zp h;rw[ky.eq_1,if_pos (by simp;omega),ws (by omega)];refine .go (gi g1) ?_;refine .bind (AE hw (by omega) (hO o (qX g1))) fun v hv=>?_;rcases v with y|y|y|y
  ·exact ih (i+1) _ _ _ _ _ _ g2 hv
  ·exact ih (i+1) _ _ _ _ _ _ g2 hv
  ·exact ih (i+1) _ _ _ _ _ _ g2 hv
  exact ih (i+1) _ _ _ _ _ _ g2 hv
theorem NJ(os:Sl gy)(hl:os.l.length<=40)(hO: ∀o∈os.l,S2 o):qB (cG os) wR:=by
 unfold cG;refine .go new_ok ?_;refine .bind (Su os hl hO _ os.l 0 _ _ _ _ _ _ rfl ⟨well0,⟨by simp,by simp⟩,by simp,by simp,by simp,by simp,by simp⟩) fun v hv=> .ret hv
end Xr
namespace Xr
theorem Qr(x n:Int)(h0:0<n)(h1:n<=2^40):qB (pO x n) (fun v=>0<=v/\v<n):=by
 have hw:IntKind.u64.wrap n=n:=by
  simp only[IntKind.wrap,IntKind.bits,IntKind.signed];simp;omega
 have hx:0<=IntKind.u64.wrap x:=by
  simp only[IntKind.wrap,IntKind.bits,IntKind.signed];simp;omega
 unfold pO;rw[hw,if_pos (by omega)];have h2:=Int.tmod_nonneg n hx;have h3:=Int.tmod_lt_of_pos (IntKind.u64.wrap x) h0;rw[wi (n:=(IntKind.u64.wrap x).tmod n)];exact .ret ⟨h2,h3⟩
theorem X5(a b:ql):fm a b=some (decide (xo a b)):=rB a b
theorem Cr(s:qc)(qk:ql)(a:Nat)(i:qw)(hi:s.insts.l[a]? =some i)(hl:i.stops.l.length<=2^12)(KL:Sl qw)(N5 Us k0:Int)(b2:qw): ∀(r:List qu)(k:Nat),i.stops.l.drop k=r->
  ∃v:Int⊕Unit,jZ (k0,KL,N5,Us,i.stops,(i.stops.l.length:Int),(k:Int),s,qk,b2)=some v/\xY ((a:Int),(k:Int),s,qk)=some v/\ ∀y,v= .inl y->0<=y:=by
 intro r;induction r with
 |nil=>
  intro k h;have:=zc h;refine⟨.inr (), ?_, ?_,by simp⟩
  ·rw[jZ.eq_1,if_neg (by simp;omega)]
  rw[xY.eq_1,gi hi];simp only[xe,z7];rw[if_neg (by simp;omega)]
 |cons x r ih=>
  intro k h;obtain⟨g1,g2,g3⟩:=zp h;obtain⟨v,v1,v2,v3⟩:=ih (k+1) g2;by_cases c:((x.n==s.cur)&&(!x.qJ))=true/\xo qk x.span
  ·refine⟨.inl k, ?_, ?_,fun y hy=>by cases hy;omega⟩
   ·rw[jZ.eq_1,if_pos (by simp;omega),gi g1];simp only[xe,z7];rw[if_pos c.1,X5];simp[c.2]
   rw[xY.eq_1,gi hi];simp only[xe,z7];rw[if_pos (by simp;omega),gi g1];simp only[z7];rw[if_pos c.1,rB];simp[c.2]
  refine⟨v, ?_, ?_,v3⟩
  ·rw[jZ.eq_1,if_pos (by simp;omega),gi g1,ws (by omega),v1];simp only[xe,z7];by_cases c1:((x.n==s.cur)&&(!x.qJ))=true
   ·rw[if_pos c1,X5];have: ¬xo qk x.span:=fun h=>c ⟨c1,h⟩;simp[this]
   rw[if_neg c1]
  rw[xY.eq_1,gi hi];simp only[xe,z7];rw[if_pos (by simp;omega),gi g1,ws (by omega),v2];simp only[z7];by_cases c1:((x.n==s.cur)&&(!x.qJ))=true
  ·rw[if_pos c1,rB];have: ¬xo qk x.span:=fun h=>c ⟨c1,h⟩;simp[this]
  rw[if_neg c1]
theorem Kb(s:qc)(hs:jX s)(qk:ql): ∃a k:Int,gA s qk=some (a,k)/\ko s qk=some (a,k)/\(a<0↔k<0):=by
 have loop: ∀(r:List qw)(a:Nat),s.insts.l.drop a=r-> ∃v:(Int×Int)⊕Unit,kR (s.insts,(s.insts.l.length:Int),(a:Int),s,qk)=some v/\jn ((a:Int),s,qk)=some v/\ ∀y,v= .inl y->0<=y.1/\0<=y.2:=by
  have hn:=hs.1;intro r;induction r with
  |nil=>
   intro a h;have:=zc h;refine⟨.inr (), ?_, ?_,by simp⟩
   ·rw[kR.eq_1,if_neg (by simp;omega)]
   rw[jn.eq_1,if_neg (by simp;omega)]
  |cons i r ih=>
   intro a h;obtain⟨g1,g2,g3⟩:=zp h;obtain⟨u,u1,u2,u3⟩:=Cr s qk a i g1 (hs.2 i (qX g1)) s.insts (s.insts.l.length:Int) (a:Int) (a:Int) i i.stops.l 0 rfl;obtain⟨v,v1,v2,v3⟩:=ih (a+1) g2;rw[show ((0:Nat):Int)=0 from rfl]at u1 u2;rcases u with y|y
   ·refine⟨.inl ((a:Int),y), ?_, ?_,fun z hz=>by cases hz;exact⟨by simp,u3 y rfl⟩⟩
    ·rw[kR.eq_1,if_pos (by simp;omega),gi g1];simp only[xe,z7,u1]
    rw[jn.eq_1,if_pos (by simp;omega),u2];simp only[xe,z7]
   refine⟨v, ?_, ?_,v3⟩
   ·rw[kR.eq_1,if_pos (by simp;omega),gi g1,ws (by omega)];simp only[xe,z7,u1,v1]
   rw[jn.eq_1,if_pos (by simp;omega),u2,ws (by omega)];simp only[xe,z7,v2]
 obtain⟨v,v1,v2,v3⟩:=loop s.insts.l 0 rfl;rw[show ((0:Nat):Int)=0 from rfl]at v1 v2;unfold gA ko;rw[v1,v2];rcases v with y|y
 ·have:=v3 y rfl;exact⟨y.1,y.2,rfl,rfl,by omega⟩
 exact⟨-1,-1,rfl,rfl,by omega⟩
theorem Bt(s:qc)(hs:jX s)(es:Sl qo)(hl:es.l.length<2^60): ∃b:Bool,nM s es=some b/\ur s es=some b:=by
 have loop: ∀(d k:Nat),k+d=es.l.length-> ∃v:Bool⊕Unit,kS (es,(es.l.length:Int),(k:Int),s)=some v/\jo (es,(k:Int),s)=some v:=by
  intro d;induction d with
  |zero=>
   intro k h;refine⟨.inr (), ?_, ?_⟩
   ·rw[kS.eq_1,if_neg (by simp;omega)]
   rw[jo.eq_1,if_neg (by simp;omega)]
  |succ d ih=>
   intro k h;obtain⟨x,hx⟩:=gl (l:=es.l) (k:=k) (by omega);obtain⟨a,j,o1,o2,o3⟩:=Kb s hs x.span;obtain⟨v,v1,v2⟩:=ih (k+1) (by omega);by_cases c:a<0
   ·refine⟨.inl false, ?_, ?_⟩
    ·rw[kS.eq_1,if_pos (by simp;omega),gi hx];simp only[xe,z7,o1];rw[if_pos (by simpa using o3.1 c)]
    rw[jo.eq_1,if_pos (by simp;omega),gi hx];simp only[xe,z7,o2];rw[if_pos (by simpa using c)]
   refine⟨v, ?_, ?_⟩
   ·rw[kS.eq_1,if_pos (by simp;omega),gi hx,ws (by omega)];simp only[xe,z7,o1,v1];rw[if_neg (by simp only[decide_eq_true_eq];omega)]
   rw[jo.eq_1,if_pos (by simp;omega),gi hx,ws (by omega)];simp only[xe,z7,o2,v2];rw[if_neg (by simpa using c)]
 obtain⟨v,v1,v2⟩:=loop es.l.length 0 (by omega);rw[show ((0:Nat):Int)=0 from rfl]at v1 v2;unfold nM ur;rw[v1,v2];rcases v with y|y
 ·exact⟨y,rfl,rfl⟩
 exact⟨true,rfl,rfl⟩
theorem Ie(n:Int)(hn:0<=n/\n<=2^30)(es:Sl qo)(hl:es.l.length<=100):qB (cH n es) (fun v=>v.l.length<=100):=by
 have loop: ∀(r:List qo)(i:Nat)(out:List qo),es.l.drop i=r->out.length<=i->i<=es.l.length->qB (uA (n,es,(i:Int),out)) (fun v=>v.length<=100):=by
  intro r;induction r with
  |nil=>
   intro i out h h1 h2;have:=zc h;rw[uA.eq_1,if_neg (by simp;omega)];exact .ret (by omega)
  |cons x r ih=>
   intro i out h h1 h2;obtain⟨g1,g2,g3⟩:=zp h;rw[uA.eq_1,if_pos (by simp;omega),ws (by omega)];refine .go (gi g1) ?_;rw[wi (n:=n+1)];refine .bind (Qr _ (n+1) (by omega) (by omega)) fun a _=>?_;refine .bind (Qr _ 6 (by omega) (by omega)) fun b _=>?_;refine .zm qC (ih (i+1) _ g2 (by simp;omega) (by omega))
 unfold cH;exact .bind (loop es.l 0 [] rfl (by simp) (by simp)) fun v hv=> .ret hv
theorem sp_in{st:qr}(h:wR st){x:qc}(hx:x∈st.qj.l){n:Int}{p:ql}(hp:p∈vU n x.insts.l):0<=p.qO/\p.qO<=p.to/\p.to<=65536:=by
 have ht:=h.may.text;obtain⟨i,hi,y,hy,rfl,_⟩:=OQ hp;obtain⟨a,ha⟩:=jz hi;obtain⟨k,hk⟩:=jz hy;have hm:=(h.may.may x hx).may a i ha;have h1:=hm.inside k y hk;have h2:=hm.le k y hk;have h3:=hm.QP;omega
theorem PN{st:qr}(h:wR st)(es:Sl qo)(hl:es.l.length<=100):qB (pP st es) (fun v=>v.l.length<=100):=by
 have ht:=h.may.text;have h8:=h.may.sB;unfold pP;refine .ite (fun _=>qB.bind (Ie _ ⟨by omega,by omega⟩ es hl) fun v hv=> .ret hv) fun c=>?_;have jv:st.qj.l.length≠0:=by intro e;rw[e]at c;simp at c
 rw[wi (n:=(st.qj.l.length:Int)-1),show(st.qj.l.length:Int)-1=((st.qj.l.length-1:Nat):Int)from by omega];obtain⟨x,hx⟩:=gl (l:=st.qj.l) (k:=st.qj.l.length-1) (by omega);have Tu:=qX hx;refine .go (gi hx) ?_;obtain⟨s1,s2⟩:=spl h x Tu x.cur;refine .go s1 ?_;have loop: ∀(r:List qo)(i:Nat)(qk:Int)(out:List qo),es.l.drop i=r->out.length<=i->i<=es.l.length->qB (kT (es,⟨(vU x.cur x.insts.l).isEmpty,vU x.cur x.insts.l⟩,qk,(i:Int),st,x,out)) (fun v=>v.length<=100):=by
  intro r;induction r with
  |nil=>
   intro i qk out h h1 h2;have:=zc h;rw[kT.eq_1,if_neg (by simp;omega)];exact .ret (by omega)
  |cons e r ih=>
   intro i qk out h0 h1 h2;obtain⟨g1,g2,g3⟩:=zp h0;rw[kT.eq_1];refine .ite (fun c=>?_) fun _=> .ret (by omega);simp only[zB,decide_eq_true_eq]at c;refine .go (gi g1) ?_;refine .bind (Qr _ _ (by simp only;omega) (by simp only;omega)) fun a ha=>?_;refine .bind (qB.get ha.1 ha.2) fun p hp=>?_;have hpi:=sp_in h Tu hp.2;rw[wi (n:=p.to-p.qO),wi (n:=p.to-p.qO+1)];refine .bind (Qr _ _ (by omega) (by omega)) fun b hb=>?_;rw[wi (n:=p.qO+b),wi (n:=p.to-(p.qO+b)),wi (n:=p.to-(p.qO+b)+1)];refine .bind (Qr _ _ (by omega) (by omega)) fun d hd=>?_;rw[ws (k:=i) (by omega)];refine .ite (fun _=>ih (i+1) _ _ g2 (by omega) (by omega)) fun _=>?_;exact .zm qC (ih (i+1) _ _ g2 (by simp;omega) (by omega))
 exact .bind (loop es.l 0 _ [] rfl (by simp) (by simp)) fun v hv=> .ret hv
theorem owns_L2(s:qc)(hs:jX s)(es ins:Sl qo)(hi:ins.l.length<=100)(j:Int)(qk:ql)(st:qr): ∀(d k:Nat),k+d=ins.l.length->jL (es,ins,j,(k:Int),qk,st,s)=some (.inr ()):=by
 intro d;induction d with
 |zero=>intro k h;rw[jL.eq_1,if_neg (by simp;omega)]
 |succ d ih=>
  intro k h;obtain⟨x,hx⟩:=gl (l:=ins.l) (k:=k) (by omega);obtain⟨a,b,o1,o2,_⟩:=Kb s hs x.span;rw[jL.eq_1,if_pos (by simp;omega),gi hx,ws (by omega)];simp only[xe,z7,o1,o2,ih (k+1) (by omega)];simp
theorem owns_L0{st:qr}(h:wR st)(es ins:Sl qo)(hi:ins.l.length<=100)(he:es.l.length<=100)(qk:ql): ∀(d k:Nat),k+d=st.qj.l.length->jK (es,ins,(k:Int),qk,st)=some (.inr ()):=by
 have h8:=h.may.sB;intro d;induction d with
 |zero=>intro k h;rw[jK.eq_1,if_neg (by simp;omega)]
 |succ d ih=>
  intro k hk;obtain⟨s,hs⟩:=gl (l:=st.qj.l) (k:=k) (by omega);have Qk:=h.small s (qX hs);obtain⟨a,b,o1,o2,_⟩:=Kb s Qk qk;obtain⟨p,p1,p2⟩:=Bt s Qk es (by omega);obtain⟨q,q1,q2⟩:=Bt s Qk ins (by omega);have Lv:=owns_L2 s Qk es ins hi (k:Int) qk st ins.l.length 0 (by omega);rw[show ((0:Nat):Int)=0 from rfl]at Lv;rw[jK.eq_1,if_pos (by simp;omega),gi hs,ws (by omega)];simp only[xe,z7,o1,o2,p1,p2,q1,q2,Lv,ih (k+1) (by omega)];simp
theorem cI(os:Sl gy)(qk:ql)(es:Sl qo):yg os qk es=some true:=by
 have key:qB (yg os qk es) (fun v=>v=true):=by
  unfold yg;refine .bind (ops_tot 6 120 (by omega) (by omega) os) fun v hv=>?_;refine .ite (fun _=>qB.go (a:=true) rfl (.ret rfl)) fun c=>?_;obtain⟨h1,h2⟩:=hv (by simpa using c);refine .bind (Gz 4 60 (by omega) (by omega) es) fun u hu=>?_;refine .ite (fun _=>qB.go (a:=true) rfl (.ret rfl)) fun c=>?_;obtain⟨h3,_⟩:=hu (by simpa using c);refine .bind (NJ os (by omega) h2) fun st XH=>?_;refine .bind (PN XH es (by omega)) fun ins hins=>?_;refine .go (owns_L0 XH es ins hins (by omega) qk st.qj.l.length 0 (by omega)) ?_;exact .go (a:=true) rfl (.ret rfl)
 obtain⟨v,h1,h2⟩:=key;rw[h1,h2]
end Xr
theorem cI(os:Sl gy)(qk:ql)(es:Sl qo):yg os qk es=some true:=Xr.cI os qk es
end Go.Proofs.YtmllebdamdnhoaaGreat
