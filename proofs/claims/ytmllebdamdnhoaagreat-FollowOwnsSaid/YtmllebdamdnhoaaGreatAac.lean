/-
  The machine, part d.
-/
import Derived.Test.YtmllebdamdnhoaaGreatAab
import Derived.Below
import Derived.Deep.Draws
import Derived.Laws.AppendOwn
import Derived.Lib.ItoaNum
import Derived.Lib.LaidTab
import Derived.Lib.SlKeysI
import Derived.LoopN
import Derived.Maps.Own
import Derived.OpenShut
import Derived.Orders
import Derived.ProofKit
import Derived.Sort.Grow
set_option linter.unusedSimpArgs false
set_option linter.unusedVariables false
set_option linter.unusedSectionVars false
namespace Go.Gm
open Go
def ie[zN](P:Program)(f:FuncId)(args:List AV)(H:qn)(r:AV)(H' :qn):Prop:=
 ∀(w:World)(ι:vG)(Im:Nat->Prop)(vs:List Value),qW w H ι Im->args.length=vs.length->(∀(i:Nat) x v,args[i]? =some x->vs[i]? =some v->RA w H ι Im x v)->
  Calls P f ⟨vs⟩ w fun e w' => ∃v ι' jA,e= .returned v/\qW w' H' ι' jA/\w8 w H ι Im w' H' ι' jA/\RA w' H' ι' jA r v
def enters(P:Program)(f:FuncId):Prop:= ∃fn,P.funcs[f]? =some fn/\(fn.name== "runtime.aX")=false/\fn.body.isSome=true
structure nI [zN] (P:Program) (O:zS):Prop where
 call: ∀f args H r H',O.call f args H=some (r,H')->enters P f/\ie P f args H r H'
section
variable [zN] {P:Program} {w:World} {H:qn} {ι:vG} {Im:Nat->Prop}
theorem Ug{f:FuncId}(h:enters P f)(args:Array Value):(callFunc f args).run P w= .ok (.enter f args) w:=by
 obtain⟨fn,h1,h2,h3⟩:=h;unfold callFunc;have h3' :fn.body.isNone=false:=by cases hb:fn.body<;>simp[hb]at h3 |-
 simp only[ji,run_program,gm,h1,h2,w9,if_false,h3',Sem.run_pure]
theorem HB{O:zS}(hO:nI P O)(hi:qW w H ι Im){nx:Nat}{X:Nat->Prop}(xt:Bd X H nx){f:FuncId}{args:List AV}{vs:List Value}
  (hl:args.length=vs.length) (hR: ∀(i:Nat) x v,args[i]? =some x->vs[i]? =some v->RA w H ι Im x v) {e:bY} (hr:fP O f args H nx=some e) (hX: ∀γ,X γ->e.2.2<=γ):
  enters P f/\Calls P f ⟨vs⟩ w fun en w' => ∃v ι' jA,en= .returned v/\qW w' (qS e.2.1 H) ι' jA/\w8 w H ι Im w' (qS e.2.1 H) ι' jA/\RA w' (qS e.2.1 H) ι' jA e.1 v/\
   nx<=e.2.2/\Bd X (qS e.2.1 H) e.2.2:=by
 unfold fP at hr;split at hr
 ·cases hr
 rename_i L H0 iL;split at hr
 ·cases hr
 rename_i v H' sN;split at hr<;>cases hr;rename_i hk;obtain⟨hs,JM,_⟩:=eJ List.nodup_nil iL;obtain⟨JI,sH⟩:=hO.call f _ H0 v H' sN;refine⟨JI, ?_⟩;have:=sH w (lO ι L) Im vs (hs.hinv hi) (by rw[sw,hl]) (fun i x v h1 h2=>by
  rw[mE]at h1
  simp only[yi]at h1
  obtain⟨y,hy,rfl⟩:=h1
  exact lH _ (hR i y v hy h2) fun β hβ b hb=>hs.HM (JM β (vi hy hβ)) b hb)
 refine this.mono fun en w'⟨u,ι',jA,h1,h2,h3,h4⟩=>?_;obtain⟨b1,b2,b3,b4⟩:=back_ok hs hi xt h2 h3 hk hX;exact⟨u,_,jA,h1,b1,b2,b3 h4,Nat.le_add_right _ _,b4⟩
theorem Act.U1(a:Act)(d:Option Tmp)(v:Value)(t:Nat):(a.put d v).tmps.getD t undef=if d=some t/\t<a.tmps.size then v else a.tmps.getD t undef:=by
 cases d with
 |none=>simp[Act.put]
 |some d=>
  simp only[Act.put,kX];by_cases h:d=t
  ·subst h;by_cases h2:d<a.tmps.size
   ·simp[h2,Array.getD]
   simp[h2,Array.getD]
  rw[if_neg (fun h' =>h h'.1)];simp only[Array.getD,Array.size_setIfInBounds];split
  ·rw[Array.getInternal_eq_getElem,Array.getInternal_eq_getElem,Array.getElem_setIfInBounds_ne];exact h
  rfl
theorem Act.QC(a:Act)(d:Option Tmp)(v:Value):(a.put d v).tmps.size=a.tmps.size:=by
 cases d<;>simp[Act.put]
theorem Act.put_defers(a:Act)(d:Option Tmp)(v:Value):(a.put d v).defers=a.defers:=by
 cases d<;>rfl
theorem cQ(d:Option Tmp)(v:AV)(E:vF)(t:Nat):(cP d v E).get t=if d=some t then v else E.get t:=by
 cases d with
 |none=>simp[cP]
 |some d=>simp[cP,vF.get]
theorem XC{a:Act}{E:vF}{nt:Nat}(hE: ∀t,RA w H ι Im (E.get t) (a.tmps.getD t undef))(bO:nt<=a.tmps.size){d:Option Tmp}(hd: ∀t,d=some t->t<nt)
  {x:AV} {v:Value} (hx:RA w H ι Im x v): ∀t,RA w H ι Im ((cP d x E).get t) ((a.put d v).tmps.getD t undef):=by
 intro t;rw[cQ,Act.U1];by_cases h:d=some t
 ·rw[if_pos h,if_pos ⟨h,Nat.lt_of_lt_of_le (hd t h) bO⟩];exact hx
 rw[if_neg h,if_neg (fun h' =>h h'.1)];exact hE t
theorem GV:RA w H ι Im (.xS []) Go.undef:= .xS [] [] rfl (by simp)
def WJ(nt:Nat)(ops:List Oper):Prop:= ∀o∈ops,∀ t,o.dst=some t->t<nt
def dM(w:World)(H:qn)(ι:vG)(Im:Nat->Prop)(nt:Nat)(s:St)(a:Act)(w' :World):Prop:=
 ∃ι' jA,Inv w' a s ι' jA nt/\w8 w H ι Im w' s.heap ι' jA
theorem dM.from{w1:World}{H1:qn}{ι1:vG}{aV:Nat->Prop}{nt:Nat}{s:St}{a:Act}{w' :World}(h:dM w1 H1 ι1 aV nt s a w')(he:w8 w H ι Im w1 H1 ι1 aV):
  dM w H ι Im nt s a w' :=
 let⟨ι',jA,h1,h2⟩:=h
 ⟨ι',jA,h1,he.trans h2⟩
theorem VL{a:Act}{o:Oper}{t:TypeId}{z:Operand}(DQ:o.op= .box t z){u:Value}{w' :World}(h:(Instr.box t (a.eval z)).run P w= .ok u w'):
  (execOp a.eval o).run P w= .ok (.value u) w' :=by
 unfold execOp;simp only[DQ];simp[h]
theorem Ip{G:GP}{O:zS}(hG:vL P G)(hO:nI P O){a:Act}{E:vF}{nx:Nat}(hi:qW w H ι Im)(Xl: ∀t,RA w H ι Im (E.get t) (a.tmps.getD t undef))
  {X:Nat->Prop} (xt:Bd X H nx) (o:Oper) {x:AV} {ws:List (Nat×qD)} {cM:Nat} (Qj:ni G O o.op E H nx=some (x,ws,cM)) (hX: ∀γ,X γ->cM<=γ)
  (next:Act->World->Prop) (Q:Exit->Act->World->Prop)
  (ZH: ∀(u:Value)(w' :World)(ι' :vG)(jA:Nat->Prop),qW w' (qS ws H) ι' jA->w8 w H ι Im w' (qS ws H) ι' jA->RA w' (qS ws H) ι' jA x u->
   Bd X (qS ws H) cM->next (a.put o.dst u) w'):
  o.wp P a w next Q:=by
 unfold Oper.wp;cases hc:JT o.op with
 |false=>
  obtain⟨u,w',h1,ι',h2,h3,h4,h5,h6⟩:=aop_ok hG hi xt Xl O o hc Qj hX;rcases h1 with h1|⟨h1,rfl⟩
  ·rw[h1];exact ZH _ _ _ _ h2 h3 h4 h6
  rw[h1];exact ZH _ _ _ _ h2 h3 h4 h6
 |true=>
  by_cases hbx: ∃t z,o.op= .box t z
  ·obtain⟨t,z,DQ⟩:=hbx;rw[DQ]at Qj;unfold ni at Qj;simp only at Qj;split at Qj;rotate_left
   ·cases Qj
   rename_i hs;unfold aBox at Qj;split at Qj
   ·split at Qj<;>cases Qj;rename_i l hl;obtain⟨u,w',jA,h1,h2,h3,h4⟩:=A8 (P:=P) (t:=t) hi (oZ Xl z) hs hl;rw[VL DQ h1];exact ZH _ _ _ _ h2 h3 h4 xt
   cases Qj;obtain⟨u,w',h1,ι',h2,h3,h4,h5,h6⟩:=aBox_ok (P:=P) (t:=t) hi xt (sS hX) (oZ Xl z) hs;rw[VL DQ h1];exact ZH _ _ _ _ h2 h3 h4 h6
  obtain⟨fo,args,rJ,DQ⟩: ∃fo args rJ,o.op= .call { callee:= .value fo,args:=args,argTypes:=rJ }:=by
   cases ho:o.op<;>simp[JT,ho]at hc
   ·exact absurd ⟨_,_,ho⟩ hbx
   rename_i c;obtain⟨callee,args,rJ⟩:=c;cases callee<;>simp at hc;exact⟨_,_,_,rfl⟩
  rw[DQ]at Qj;have Ti:args.map a.eval=⟨args.toList.map a.eval⟩:=by apply Array.ext'; simp
  have Xp: ∀(f:FuncId)(first cap:Array Value),a.eval fo= .func (.func f) first cap->enters P f->
    (execOp a.eval o).run P w= .ok (.enter f (first++args.map a.eval++cap)) w:=by
   intro f first cap hf JI
   unfold execOp;simp only[DQ,resolve,hf,Deferred.ofValue,ji,Sem.run_pure,gm,invoke,Ug JI]
  have DM:=oZ Xl fo;have hlist:=TF Xl args.toList;unfold ni at Qj;simp only at Qj;have finish: ∀(f:FuncId)(vs:List Value)(e:bY),(x,ws,cM)=e->(Calls P f ⟨vs⟩ w fun en w' => ∃v ι' jA,en= .returned v/\qW w' (qS e.2.1 H) ι' jA/\w8 w H ι Im w' (qS e.2.1 H) ι' jA/\RA w' (qS e.2.1 H) ι' jA e.1 v/\
    nx<=e.2.2/\Bd X (qS e.2.1 H) e.2.2)->o.upon P a next Q (.ok (.enter f ⟨vs⟩) w):=by
   intro f vs e he sN;subst he;show Calls P f ⟨vs⟩ w _;refine sN.mono fun en w'⟨v,ι',jA,q1,q2,q3,q4,q5,q6⟩=>?_;subst q1;exact ZH _ _ _ _ q2 q3 q4 q6
  split at Qj
  ·rename_i f hf;rw[hf]at DM;have hp:=DM.uB;generalize hv:a.eval fo=vf at hp;cases hp;obtain⟨JI,sN⟩:=HB hO hi xt (vs:=args.toList.map a.eval) (by simp) hlist Qj hX;rw[Xp f #[] #[] hv JI,Ti];have:(#[]++(⟨args.toList.map a.eval⟩:Array Value)++ #[])=⟨args.toList.map a.eval⟩:=by simp
   rw[this];exact finish f _ _ rfl sN
  ·rename_i f fa fb hf;rw[hf]at DM;generalize hv:a.eval fo=vf at DM;cases DM with
   |lr _ _ _ va vb Wa Tm ha hb=>
    obtain⟨JI,sN⟩:=HB hO hi xt (vs:=va++args.toList.map a.eval++vb) (by simp[Wa,Tm]) (fun i z v h1 h2=>by
     rw[List.getElem?_append]at h1 h2
     have hlen:(fa++args.toList.map (ev E)).length=(va++args.toList.map a.eval).length:=by simp[Wa]
     rw[<- hlen]at h2
     split at h1
     ·rename_i XG
      rw[if_pos XG]at h2
      rw[List.getElem?_append]at h1 h2
      rw[<- Wa]at h2
      split at h1
      ·rename_i Yr
       rw[if_pos Yr]at h2
       exact ha i z v h1 h2
      rename_i Yr
      rw[if_neg Yr]at h2
      exact hlist _ z v h1 h2
     rename_i XG
     rw[if_neg XG]at h2
     exact hb _ z v h1 h2) Qj hX
    rw[Xp f _ _ hv JI,Ti];have:((⟨va⟩:Array Value)++(⟨args.toList.map a.eval⟩:Array Value)++(⟨vb⟩:Array Value))=⟨va++args.toList.map a.eval++vb⟩:=by simp
    rw[this];exact finish f _ _ rfl sN
  cases Qj
theorem OX{G:GP}{O:zS}(hG:vL P G)(hO:nI P O){nt:Nat}{a:Act}{s s' :St}(h:Inv w a s ι Im nt)(o:Oper)(hd: ∀t,o.dst=some t->t<nt)
  (hr:QK G O o s=some s') (next:Act->World->Prop) (Q:Exit->Act->World->Prop) (hn: ∀a' w',dM w s.heap ι Im nt s' a' w' ->next a' w'):
  o.wp P a w next Q:=by
 unfold QK at hr;split at hr<;>cases hr;rename_i x ws cM Qj;refine Ip hG hO h.heap h.env (X:=fun _=>False) (fun β b hb=> .inl (h.nx β b hb)) o Qj (fun _ h=>h.elim) next Q fun u w' ι' jA h1 h2 h3 h4=>?_
 refine hn _ _ ⟨ι',jA,⟨h1, ?_,fun β b hb=>(h4 β b hb).resolve_right id,by rw[Act.QC];exact h.size,by rw[Act.put_defers];exact h.defers⟩,h2⟩;exact XC (fun t=>(h.env t).mono h.heap h2) h.size hd h3
theorem dM.post{nt:Nat}{s:St}{a:Act}{w' :World}(h:dM w H ι Im nt s a w')(l:List S0):dM w H ι Im nt (mh l s) a w' :=by
 obtain⟨ι1,aV,h1,e1⟩:=h;obtain⟨ι2,UB,h2,e2⟩:=XA l h1;exact⟨ι2,UB,h2,e1.trans e2⟩
end
section
variable [zN] {P:Program} {w:World} {H:qn} {ι:vG} {Im:Nat->Prop}
theorem JE{ops:Array Oper}{a:Act}{E:vF}(hE: ∀t,RA w H ι Im (E.get t) (a.tmps.getD t undef)){o:Oper}{b:Bool}(h:vM ops.toList o E=some b):
  Region.wanted o (yielded ops a.tmps)=b:=by
 unfold vM at h;unfold Region.wanted;split at h
 ·rename_i hg;rw[hg];cases h;rfl
 rename_i j want hg;rw[hg];simp only;split at h
 ·rename_i oj hoj;have hoj' :ops[j]? =some oj:=by rw[<- Array.getElem?_toList];exact hoj
  split at h
  ·rename_i d hd;have hyd:yielded ops a.tmps j=match a.tmps[d]? with|some (.bool b)=>some b|_=>none:=by
    simp only[yielded,hoj',z7,hd];rfl
   rw[hyd];have hr:=hE d;have hgd:a.tmps.getD d undef=(a.tmps[d]?).getD undef:=by
    simp[Array.getD,getElem?_def];split<;>simp[*]
   rw[hgd]at hr;split at h
   ·rename_i b0 ZM;cases h;rw[ZM]at hr;have hp:=hr.uB;cases ht:a.tmps[d]? with
    |none=>rw[ht]at hp;cases hp
    |some v=>
     rw[ht]at hp;simp only[Option.getD_some]at hp;cases hp;simp only;cases b0<;>cases want<;>rfl
   ·rename_i ZM;cases h;rw[ZM]at hr;cases ht:a.tmps[d]? with
    |none=>rfl
    |some v=>
     rw[ht]at hr;simp only[Option.getD_some]at hr;cases hr with
     |xS _ vs=>rfl
   cases h
  rename_i hd;cases h;have:yielded ops a.tmps j=none:=by simp[yielded,hoj',hd]
  rw[this];rfl
 rename_i hoj;cases h;have hoj' :ops[j]? =none:=by rw[<- Array.getElem?_toList];exact hoj
 have:yielded ops a.tmps j=none:=by simp[yielded,hoj']
 rw[this];rfl
theorem OK{a:Act}{s:St}{nt:Nat}(h:Inv w a s ι Im nt)(d:Option Tmp)(hd: ∀t,d=some t->t<nt):
  Inv w (a.put d undef) { s with env:=cP d (.xS []) s.env } ι Im nt where
 heap:=h.heap
 env:=XC h.env h.size hd GV
 nx:=h.nx
 size:=by rw[Act.QC];exact h.size
 defers:=by rw[Act.put_defers];exact h.defers
theorem Y9{G:GP}{O:zS}(hG:vL P G)(hO:nI P O){nt:Nat}(ops:Array Oper)(hd:WJ nt ops.toList)(Q:Exit->Act->World->Prop):
  ∀(rest:List Oper)(k:Nat),ops.toList.drop k=rest-> ∀{w:World}{ι:vG}{Im:Nat->Prop}{a:Act}{s s' :St},Inv w a s ι Im nt->Z0 G O ops.toList rest s=some s' ->
   (∀ a' w',dM w s.heap ι Im nt s' a' w' ->Q .normal a' w')->wpOps P ops Q (List.range' k rest.length) a w
 |[],k,_,w,ι,Im,a,s,s',h,hr,hq=>by
  cases hr;exact hq a w ⟨ι,Im,h,w8.refl _ _ _ _⟩
 |o::rest,k,nX,w,ι,Im,a,s,s',h,hr,hq=>by
  have hk:ops.toList[k]? =some o:=by
   have:=congrArg (fun l=>l[0]?) nX;simpa using this
  have QO:ops[k]? =some o:=by rw[<- Array.getElem?_toList];exact hk
  have Ek:ops.toList.drop (k+1)=rest:=by
   have:=congrArg (fun l=>l.drop 1) nX;simpa[List.drop_drop]using this
  have hdo: ∀t,o.dst=some t->t<nt:=hd o (qX hk);simp only[List.length_cons,List.range'_succ,wpOps,QO];simp only[Z0]at hr;split at hr
  ·rename_i hg;rw[JE h.env hg,if_pos rfl];obtain⟨aV,h1,e1⟩:=mN (GC G o.op s.env) h;split at hr;rotate_left
   ·cases hr
   rename_i s1 nh;refine .inl (OX hG hO h1 o hdo nh _ _ fun a' w' dJ=>?_);obtain⟨ι2,UB,h2,e2⟩:=dJ;exact Y9 hG hO ops hd Q rest (k+1) Ek h2 hr fun a'' w'' h3=>hq a'' w'' (h3.from (e1.trans e2))
  ·rename_i hg;rw[JE h.env hg,if_neg (by simp)];exact Y9 hG hO ops hd Q rest (k+1) Ek (OK h o.dst hdo) hr fun a'' w'' h3=>hq a'' w'' h3
  cases hr
theorem D4{G:GP}{O:zS}(hG:vL P G)(hO:nI P O){nt:Nat}(id:Nat)(ops:Array Oper)(hd:WJ nt ops.toList)
  {a:Act} {s s' :St} (h:Inv w a s ι Im nt) (hr:Z0 G O ops.toList ops.toList s=some s') (Q:Exit->Act->World->Prop)
  (hq: ∀a' w',dM w s.heap ι Im nt s' a' w' ->Q .normal a' w'):(Code.region id ops false).wp P Q a w:=by
 refine wp_region ?_;have:=Y9 hG hO ops hd Q ops.toList 0 (by simp) h hr hq;rw[List.range_eq_range'];simpa using this
end
def xm(L:List Nat)(H H' :qn):Prop:= ∀γ∈L,H'.get γ=H.get γ
section
variable {H H' :qn}
theorem xm.app{A B:List Nat}(h:xm (A++B) H H'):xm A H H' /\xm B H H' :=
 ⟨fun γ hγ=>h γ (by simp[hγ]),fun γ hγ=>h γ (by simp[hγ])⟩
theorem Hn{ti:TI}{a:AV}(h:xm a.refs H H'):oP ti a H' =oP ti a H:=by
 cases a<;>simp only[oP]
 ·rename_i p;cases p<;>rfl
 ·rename_i β o;rw[h β (by simp[AV.refs])]
 rename_i β v i o;rw[h β (by simp[AV.refs])]
theorem Y7{ti:TI}{a v:AV}(h:xm a.refs H H'):e9 ti a v H' =e9 ti a v H:=by
 cases a<;>simp only[e9]
 ·rename_i β o;rw[h β (by simp[AV.refs])]
 rename_i β v i o;rw[h β (by simp[AV.refs])]
theorem fJ{v:AV}(h:xm v.refs H H'):vT v H' =vT v H:=by
 cases v with
 |pv p=>cases p<;>first|rfl|(rename_i b _ _;cases b<;>rfl)
 |row β zF off n=>simp only[vT];rw[h β (by simp[AV.refs])]
 |_=>rfl
theorem QI{v:AV}(h:xm v.refs H H'):dF v H' =dF v H:=by
 cases v with
 |row β zF off n=>simp only[dF];rw[h β (by simp[AV.refs])]
 |_=>rfl
theorem XY{te:TI}{s x:AV}{nx:Nat}(h1:xm s.refs H H')(h2:xm x.refs H H'):bx te s x H' nx=bx te s x H nx:=by
 unfold bx;rw[QI h2];cases s with
 |row β zF off n=>simp only;rw[h1 β (by simp[AV.refs])]
 |pv p=>cases p<;>first|rfl|(rename_i b _ _;cases b<;>rfl)
 |_=>rfl
theorem KR{te:TI}{s x:AV}{nx:Nat}(h1:xm s.refs H H')(h2:xm x.refs H H'):ua te s x H' nx=ua te s x H nx:=by
 unfold ua;rw[fJ h2,XY h1 h2];cases s with
 |row β zF off n=>simp only;rw[h1 β (by simp[AV.refs])]
 |pv p=>cases p<;>first|rfl|(rename_i b _ _;cases b<;>rfl)
 |_=>rfl
theorem Hi{te:TI}{s x:AV}{nx:Nat}(h1:xm s.refs H H')(h2:xm x.refs H H'):Q4 te s x H' nx=Q4 te s x H nx:=by
 unfold Q4;rw[fJ h2];cases s with
 |row β zF off n=>simp only;rw[h1 β (by simp[AV.refs])]
 |pv p=>cases p<;>first|rfl|(rename_i b _ _;cases b<;>rfl)
 |_=>rfl
theorem QU{td:TD}{aS:TypeId->Option TI}{x i:AV}(h:xm x.refs H H'):mJ td aS x i H' =mJ td aS x i H:=by
 unfold mJ;cases x with
 |row β zF off n=>
  simp only;rw[h β (by simp[AV.refs])]
 |pv p=>cases p<;>first|rfl|(rename_i b _ _;cases b<;>rfl)
 |_=>rfl
theorem Y6{td:TD}{aS:TypeId->Option TI}{ρ:Operand->AV}{x:AV}{lo hi mx:Option Operand}(h:xm x.refs H H'):fu td aS ρ x lo hi mx H' =fu td aS ρ x lo hi mx H:=by
 unfold fu;cases x with
 |row β zF off n=>
  simp only;rw[h β (by simp[AV.refs])]
 |pv p=>cases p<;>first|rfl|(rename_i b _ _;cases b<;>rfl)
 |_=>rfl
theorem J9{td:TD}{v:AV}(h:xm v.refs H H'):sE td v H' =sE td v H:=by
 unfold sE;cases v with
 |row β zF off n=>
  simp only;rw[h β (by simp[AV.refs])]
 |pv p=>cases p<;>first|rfl|(rename_i b _ _;cases b<;>rfl)
 |_=>rfl
theorem Sa{aS:TypeId->Option TI}{ti:TI}{x y:AV}(h1:xm x.refs H H')(h2:xm y.refs H H'):Lt aS ti x y H' =Lt aS ti x y H:=by
 unfold Lt;split
 ·rfl
 ·rfl
 rw[J9 h1,J9 h2]
theorem Nk{aS:TypeId->Option TI}{op:BinOp}{ti:TI}{x y:AV}(h1:xm x.refs H H')(h2:xm y.refs H H'):Nj aS op ti x y H' =Nj aS op ti x y H:=by
 have e:Lt aS ti x y H' =Lt aS ti x y H:=Sa h1 h2;unfold Nj;split
 ·rfl
 ·rfl
 split
 ·rfl
 ·rfl
 rw[e]
theorem J5{src dst:TD}{dte:TypeId->Option TI}{x:AV}{nx:Nat}(h:xm x.refs H H'):pI src dst dte x H' nx=pI src dst dte x H nx:=by
 have e:vT x H' =vT x H:=fJ h;unfold pI;split<;>first|rfl|(rw [e])
theorem Xc{G:GP}{t:TypeId}{x:AV}{nx:Nat}(h:xm x.refs H H'):mV G t x H' nx=mV G t x H nx:=rfl
theorem J8{tk te:TI}{m k:AV}{ok:Bool}(h:xm m.refs H H'):ik tk te m k ok H' =ik tk te m k ok H:=rfl
theorem Ja{tk:TI}{m k v:AV}(h:xm m.refs H H'):cz tk m k v H' =cz tk m k v H:=rfl
theorem Hk{m:AV}{k:PV}(h:xm m.refs H H'):J7 m k H' =J7 m k H:=by
 cases m with
 |map β=>simp only[J7];rw[h β (by simp[AV.refs])]
 |pv p=>cases p<;>first|rfl|(rename_i b _ _;cases b<;>rfl)
 |_=>rfl
theorem KY{tk te:TI}{m k:AV}{ok:Bool}(h:xm m.refs H H'):dN tk te m k ok H' =dN tk te m k ok H:=by
 cases k with
 |pv p=>simp only[dN,Hk h]
 |_=>rfl
theorem oQ{tk:TI}{m k:AV}{v:PV}(h:xm m.refs H H'):pJ tk m k v H' =pJ tk m k v H:=by
 cases m<;>first|rfl|(cases k<;>first|rfl|(simp only[pJ];rw[h _ (by simp[AV.refs])]))
theorem Y5{tk te:TI}{m k:AV}(h:xm m.refs H H'):ij tk te m k H' =ij tk te m k H:=rfl
theorem Q5{m st:AV}{v:PV}(h:xm m.refs H H'):gj m st v H' =gj m st v H:=rfl
theorem KU{tk:TI}{m k:AV}(h:xm m.refs H H'):rC tk m k H' =rC tk m k H:=by
 cases m<;>first|rfl|(cases k<;>first|rfl|(simp only[rC];rw[h _ (by simp[AV.refs])]))|(rename_i p;cases p<;>first|rfl|(cases k<;>rfl))
theorem Np{x:AV}(h:xm x.refs H H'):Hm x H' =Hm x H:=by
 cases x with
 |row β zF off n=>simp only[Hm];rw[h β (by simp[AV.refs])]
 |map β=>simp only[Hm];rw[h β (by simp[AV.refs])]
 |pv p=>cases p<;>first|rfl|(rename_i b _ _;cases b<;>rfl)
 |_=>rfl
theorem J0{e:TypeId}{te:TI}{s x:AV}{nx:Nat}(h1:xm s.refs H H')(h2:xm x.refs H H'):uU e te s x H' nx=uU e te s x H nx:=rfl
theorem XZ{te:TI}{s x:AV}{nx:Nat}(h1:xm s.refs H H')(h2:xm x.refs H H'):bA te s x H' nx=bA te s x H nx:=by
 unfold bA;rw[QI h2];cases s with
 |row β zF off n=>
  simp only;rw[h1 β (by simp[AV.refs])]
 |_=>rfl
theorem QV{x:AV}{nx:Nat}(h:xm x.refs H H'):mK x H' nx=mK x H nx:=rfl
theorem oG{el:TypeId}{p x:AV}{nx:Nat}(h:xm p.refs H H'):uw el p x H' nx=uw el p x H nx:=rfl
theorem J3{G:GP}{b:Builtin}{rJ:List TypeId}{args:List AV}{nx:Nat}(h:xm (AV.refs.mc args) H H'):pH G b rJ args H' nx=pH G b rJ args H nx:=by
 unfold pH;split
 ·have h1:=(xm.app h).1;simp only[Np h1]
 ·have h1:=(xm.app h).1;simp only[QV h1]
 ·have h1:=(xm.app h).1;simp only[oG h1]
 ·rfl
 ·rfl
 ·rename_i s x;have h1:xm s.refs H H' :=fun γ hγ=>h γ (by simp[AV.refs.mc,hγ]);have h2:xm x.refs H H' :=fun γ hγ=>h γ (by simp[AV.refs.mc,hγ]);simp only[KR h1 h2,J0 h1 h2,XZ h1 h2]
 ·rename_i s x;have h1:xm s.refs H H' :=fun γ hγ=>h γ (by simp[AV.refs.mc,hγ]);have h2:xm x.refs H H' :=fun γ hγ=>h γ (by simp[AV.refs.mc,hγ]);simp only[Hi h1 h2]
 ·rename_i m k;have h1:xm m.refs H H' :=fun γ hγ=>h γ (by simp[AV.refs.mc,hγ]);simp only[KU h1]
 rfl
theorem iR: ∀(n:Nat)(r d:List Nat),xm (bE H n r d) H H' ->bE H' n r d=bE H n r d
 |0,_,_,_=>rfl
 |n+1,[],d,_=>rfl
 |n+1,β::r,d,h=>by
  simp only[bE]at h |-;by_cases c:K0 d β=true
  ·rw[if_pos c]at h |-;rw[if_pos c];exact iR n r d h
  rw[if_neg c]at h |-;rw[if_neg c];have sG:β∈bE H n (r++(tC H β).refs) (d++[β]):=by
   have key: ∀(n:Nat)(r d:List Nat)(x:Nat),x∈d->x∈bE H n r d:=by
    intro n;induction n with
    |zero=>intro r d x hx;exact hx
    |succ n ih=>
     intro r d x hx;cases r with
     |nil=>exact hx
     |cons β r=>
      simp only[bE];split
      ·exact ih _ _ _ hx
      exact ih _ _ _ (by simp[hx])
   exact key _ _ _ _ (by simp)
  have hb:tC H' β=tC H β:=by simp only[tC,h β sG]
  rw[hb];exact iR n _ _ h
theorem iw{L:List Nat}: ∀(l:List Nat),xm l H H' ->mo H' L l=mo H L l
 |[],_=>rfl
 |β::r,h=>by
  simp only[mo];rw[h β (by simp),iw r fun γ hγ=>h γ (by simp[hγ])]
theorem Kd{g:Nat->Nat}: ∀(i:Nat)(l:List Nat),xm l H H' ->pick H' g i l=pick H g i l
 |_,[],_=>rfl
 |i,β::r,h=>by
  simp only[pick];rw[Kd (i+1) r fun γ hγ=>h γ (by simp[hγ])];have:tC H' β=tC H β:=by simp only[tC,h β (by simp)]
  rw[this]
theorem Wv{roots:List Nat}(h:xm (bE H 400 roots []) H H'):tv H' [] roots=tv H [] roots:=by
 cases roots with
 |nil=>rfl
 |cons β r=>
  have h' :xm (bE H 400 ((β::r)++([]:List Nat).flatMap fun β=>(tC H β).refs) []) H H' :=by simpa using h
  have e:=iR 400 _ _ h';simp only[List.flatMap_nil]at e h';simp only[tv,List.flatMap_nil,e,iw _ h',Kd 0 _ h']
theorem Zz{O:zS}{f:FuncId}{args:List AV}{nx:Nat}(h:xm (bE H 400 (AV.refs.mc args) []) H H'):fP O f args H' nx=fP O f args H nx:=by
 unfold fP;rw[Wv h]
theorem GO{ps:List (Nat×Operand)}{E E' :vF}(h: ∀x∈ps.map (·.2),ev E' x=ev E x): ∀x∈ps,ev E' x.2=ev E x.2:=fun x hx=>h x.2 (List.mem_map.2 ⟨x,hx,rfl⟩)
theorem HU{z6:Nat->Option (Nat×Nat)}{E E' :vF}: ∀(l:List (Nat×Operand))(c:List AV),(∀ x∈l,ev E' x.2=ev E x.2)->iE z6 (ev E') l c=iE z6 (ev E) l c
 |[],_,_=>rfl
 |(i,x)::r,c,h=>by
  have hx:ev E' x=ev E x:=h (i,x) (by simp);simp only[iE,hx];split
  ·split
   ·exact HU r _ fun y hy=>h y (by simp[hy])
   rfl
  rfl
theorem Jv{size:Nat}{E E' :vF}: ∀(l:List (Nat×Operand))(c:List (List PV)),(∀ x∈l,ev E' x.2=ev E x.2)->pL size (ev E') l c=pL size (ev E) l c
 |[],_,_=>rfl
 |(i,x)::r,c,h=>by
  have hx:ev E' x=ev E x:=h (i,x) (by simp);simp only[pL,hx];split
  ·split
   ·exact Jv r _ fun y hy=>h y (by simp[hy])
   rfl
  rfl
theorem ZE{size:Nat}{E E' :vF}: ∀(l:List (Nat×Operand))(c:List (List AV)),(∀ x∈l,ev E' x.2=ev E x.2)->mq size (ev E') l c=mq size (ev E) l c
 |[],_,_=>rfl
 |(i,x)::r,c,h=>by
  have hx:ev E' x=ev E x:=h (i,x) (by simp);simp only[mq,hx];split
  ·exact ZE r _ fun y hy=>h y (by simp[hy])
  rfl
theorem Mq{E E' :vF}(l:List Operand)(h: ∀x∈l,ev E' x=ev E x):l.map (ev E')=l.map (ev E):=List.map_congr_left h
theorem Sf{G:GP}{O:zS}{o:Op}{E E' :vF}{nx:Nat}(hE: ∀x∈o.operands,ev E' x=ev E x)(hH:xm (mG o E H) H H'):ni G O o E' H' nx=ni G O o E H nx:=by
 cases o with
 |move x=>simp only[ni,hE x (by simp[Op.operands])]
 |assign x=>simp only[ni,hE x (by simp[Op.operands])]
 |pick c a b=>simp only[ni,hE c (by simp[Op.operands]),hE a (by simp[Op.operands]),hE b (by simp[Op.operands])]
 |alloc t=>rfl
 |box t x=>simp only[ni,hE x (by simp[Op.operands])]
 |build t ps=>
  have h:=GO (ps:=ps.toList) (E:=E) (E' :=E') (fun x hx=>hE x (by simpa[Op.operands]using hx));simp only[ni,J1,HU _ _ h]
 |buildSlice t n ps=>
  have h:=GO (ps:=ps.toList) (E:=E) (E' :=E') (fun x hx=>hE x (by simpa[Op.operands]using hx));simp only[ni,Jv _ _ h,ZE _ _ h]
 |load t a=>simp only[ni,hE a (by simp[Op.operands]),Hn hH]
 |store t a x=>simp only[ni,hE a (by simp[Op.operands]),hE x (by simp[Op.operands]),Y7 hH]
 |nilCheck x=>simp only[ni,hE x (by simp[Op.operands])]
 |binOp op t x y z=>
  obtain⟨h1,h2⟩:=xm.app hH;simp only[ni,hE x (by simp[Op.operands]),hE y (by simp[Op.operands]),Nk h1 h2]
 |unOp op t x=>simp only[ni,hE x (by simp[Op.operands])]
 |convert s d x=>simp only[ni,hE x (by simp[Op.operands]),J5 hH,Xc hH]
 |makeFunc fn a b=>
  cases fn with
  |func f=>
   have h1:=Mq a.toList (E:=E) (E' :=E') (fun x hx=>hE x (by simp[Op.operands]at hx |-; exact .inl hx));have h2:=Mq b.toList (E:=E) (E' :=E') (fun x hx=>hE x (by simp[Op.operands]at hx |-; exact .inr hx));simp only[ni];generalize a.toList=la at h1;generalize b.toList=lb at h2;cases la<;>cases lb<;>first|rfl|(simp only[h1,h2])
  |_=>rfl
 |makeMap t r=>cases r<;>rfl
 |makeSlice t l c=>simp only[ni,hE l (by simp[Op.operands]),hE c (by simp[Op.operands])]
 |slice t x lo hi mx=>
  have hx:=hE x (by simp[Op.operands]);have h1: ∀d,jU (ev E') d lo=jU (ev E) d lo:=fun d=>by cases lo with|none=>rfl|some y=>simp only[jU,hE y (by simp[Op.operands])]
  have h2: ∀d,jU (ev E') d hi=jU (ev E) d hi:=fun d=>by cases hi with|none=>rfl|some y=>simp only[jU,hE y (by simp[Op.operands])]
  have h3: ∀d,jU (ev E') d mx=jU (ev E) d mx:=fun d=>by cases mx with|none=>rfl|some y=>simp only[jU,hE y (by simp[Op.operands])]
  have key: ∀td aS H,fu td aS (ev E') (ev E x) lo hi mx H=fu td aS (ev E) (ev E x) lo hi mx H:=by
   intro td aS H;unfold fu;simp only[h1,h2,h3]
  simp only[ni,hx,key,Y6 hH]
 |fieldAddr t x f=>simp only[ni,hE x (by simp[Op.operands])]
 |field t x f=>simp only[ni,hE x (by simp[Op.operands])]
 |indexAddr t x i=>simp only[ni,hE x (by simp[Op.operands]),hE i (by simp[Op.operands]),QU hH]
 |index t x i=>simp only[ni,hE x (by simp[Op.operands]),hE i (by simp[Op.operands])]
 |lookup t m k ok=>simp only[ni,hE m (by simp[Op.operands]),hE k (by simp[Op.operands]),KY hH,J8 hH]
 |mapUpdate t m k x=>simp only[ni,ip,hE m (by simp[Op.operands]),hE k (by simp[Op.operands]),hE x (by simp[Op.operands]),oQ hH,Ja hH]
 |insert t m k x=>simp only[ni,hE m (by simp[Op.operands]),hE k (by simp[Op.operands]),hE x (by simp[Op.operands]),oQ hH]
 |mapEntry t m k=>simp only[ni,hE m (by simp[Op.operands]),hE k (by simp[Op.operands]),Y5 hH]
 |entryStore t m st x=>simp only[ni,hE m (by simp[Op.operands]),hE st (by simp[Op.operands]),hE x (by simp[Op.operands]),Q5 hH]
 |extract t i=>simp only[ni,hE t (by simp[Op.operands])]
 |call c=>
  obtain⟨callee,args,rJ⟩:=c;have ha:=Mq args.toList (E:=E) (E' :=E') (fun x hx=>hE x (by simp[Op.operands,Call.operands];right;simpa using hx));cases callee with
  |builtin b=>simp only[ni,ha,J3 hH]
  |value f=>
   have hf:=hE f (by simp[Op.operands,Call.operands]);simp only[ni,hf,ha];simp only[mG]at hH;split
   ·rename_i g hg;rw[hg]at hH;exact Zz hH
   ·rename_i g a b hg;rw[hg]at hH;exact Zz hH
   rfl
  |_=>rfl
 |_=>rfl
end
structure Rc where
 E:vF
 H:qn
 nx:Nat
 on:Bool
 v:AV
 ws:List (Nat×qD)
 cM:Nat
 rd:List Nat
def Rc.keys(c:Rc):List Nat:=c.ws.map (·.1)
mutual
theorem PV.ot: ∀{x y:PV},PV.ka x y=true->x=y:=by
 intro x y h;cases x<;>cases y<;>first|(simp [PV.ka]at h;done)|(simp only[PV.ka,zB,beq_iff_eq,decide_eq_true_eq]at h)
 all_goals first|rfl|(rw [h];done)|(rw [h.1,h.2];done)|(rw [PV.sA h];done)|(rw [h.1.1,h.1.2,PV.rz h.2];done)
theorem PV.sA: ∀{x y:List PV},PV.dD x y=true->x=y:=by
 intro x y h;cases x<;>cases y<;>first|(simp [PV.dD]at h;done)|rfl|skip
 simp only[PV.dD,zB]at h;rw[PV.ot h.1,PV.sA h.2]
theorem PV.rz: ∀{x y:List (List PV)},PV.ry x y=true->x=y:=by
 intro x y h;cases x<;>cases y<;>first|(simp [PV.ry]at h;done)|rfl|skip
 simp only[PV.ry,zB]at h;rw[PV.sA h.1,PV.rz h.2]
end
theorem AV.ot{x y:AV}(h:AV.ka x y=true):x=y:=by
 cases x<;>cases y<;>first|(simp [AV.ka]at h;done)|rfl|(simp only[AV.ka,zB,decide_eq_true_eq]at h)
 all_goals first|(rw [PV.ot h];done)|(obtain ⟨⟨⟨h1,h2⟩,h3⟩,h4⟩:=h;subst h1 h2 h3 h4;rfl)|(obtain ⟨h1,h2⟩:=h;subst h1 h2;rfl)|(subst h;rfl)
theorem AV.sA: ∀{x y:List AV},AV.dD x y=true->x=y
 |[],[],_=>rfl
 |[],_::_,h=>by simp[AV.dD]at h
 |_::_,[],h=>by simp[AV.dD]at h
 |_::_,_::_,h=>by
  simp only[AV.dD,zB]at h;rw[AV.ot h.1,AV.sA h.2]
theorem AV.rz: ∀{x y:List (List AV)},AV.ry x y=true->x=y
 |[],[],_=>rfl
 |[],_::_,h=>by simp[AV.ry]at h
 |_::_,[],h=>by simp[AV.ry]at h
 |_::_,_::_,h=>by
  simp only[AV.ry,zB]at h;rw[AV.sA h.1,AV.rz h.2]
theorem qD.ot{x y:qD}(h:qD.ka x y=true):x=y:=by
 cases x<;>cases y<;>first|(simp [qD.ka]at h;done)|rfl|(simp only[qD.ka,zB,decide_eq_true_eq,beq_iff_eq]at h)
 all_goals first|(rw [AV.sA h];done)|(rw [h.1,AV.sA h.2];done)|(rw [h.1,AV.rz h.2];done)|(rw [h.1.1,h.1.2,PV.rz h.2];done)|(rw [h.1.1.1,h.1.1.2,h.1.2,PV.rz h.2];done)
theorem V7{H:qn}{β:Nat}{b:qD}(h:Mj H β b=true):H.get β=some b:=by
 unfold Mj at h;split at h
 ·rename_i c hc;rw[hc,qD.ot h]
 cases h
theorem KE(rd:List Nat): ∀(ws:List (Nat×qD))(H:qn)(x:Nat×qD),x∈trim rd H ws->x∈ws
 |[],H,x,h=>by simp[trim]at h
 |(β,b)::r,H,x,h=>by
  rw[trim]at h;split at h
  ·exact List.mem_cons_of_mem _ (KE rd r H x h)
  rcases List.mem_cons.1 h with rfl|h
  ·exact List.mem_cons_self
  exact List.mem_cons_of_mem _ (KE rd r _ x h)
theorem KC(rd:List Nat): ∀(ws:List (Nat×qD))(H:qn)(γ:Nat),γ∈ws.map (·.1)->γ∈(trim rd H ws).map (·.1)\/ ∃b,H.get γ=some b
 |[],H,γ,h=>by simp at h
 |(β,b)::r,H,γ,h=>by
  rw[trim];simp only[List.map_cons,List.mem_cons]at h;split
  ·rename_i hc;simp only[zB]at hc;rcases h with rfl|h
   ·exact .inr ⟨_,V7 hc.2⟩
   exact KC rd r H γ h
  rcases h with rfl|h
  ·exact .inl (by simp)
  rcases KC rd r (H.put β b) γ h with h|⟨c,h⟩
  ·exact .inl (by simp[h])
  rw[qn.qZ]at h;split at h
  ·rename_i e;exact .inl (by simp[e])
  exact .inr ⟨c,h⟩
theorem dV: ∀(ws:List (Nat×qD))(H H' :qn)(γ:Nat),γ∈ws.map (·.1)->(qS ws H).get γ=(qS ws H').get γ
 |[],_,_,_,h=>by simp at h
 |(i,b)::r,H,H',γ,h=>by
  simp only[qS];by_cases hr:γ∈r.map (·.1)
  ·exact dV r _ _ γ hr
  have hi:γ=i:=by
   simp only[List.map_cons,List.mem_cons]at h;exact h.resolve_right hr
  have jv: ∀x∈r,x.1≠γ:=fun x hx e=>hr (by rw[<- e];exact List.mem_map.2 ⟨x,hx,rfl⟩);rw[jB r _ γ jv,jB r _ γ jv,qn.qZ,qn.qZ,if_pos hi,if_pos hi]
theorem KD(rd:List Nat): ∀(ws:List (Nat×qD))(H H' :qn),xm rd H H' -> ∀γ,(qS (trim rd H ws) H').get γ=(qS ws H').get γ
 |[],_,_,_,_=>rfl
 |(β,b)::r,H,H',h,γ=>by
  rw[trim];split
  ·rename_i hc;simp only[zB]at hc;have h1:=V7 hc.2;have h2:H'.get β=some b:=by rw[h β ((iN rd β).1 hc.1),h1]
   rw[KD rd r H H' h γ];simp only[qS];by_cases hr:γ∈r.map (·.1)
   ·exact dV r _ _ γ hr
   have jv: ∀x∈r,x.1≠γ:=fun x hx e=>hr (by rw[<- e];exact List.mem_map.2 ⟨x,hx,rfl⟩);rw[jB r _ γ jv,jB r _ γ jv,qn.qZ];split
   ·rename_i e;rw[e,h2]
   rfl
  simp only[qS];refine KD rd r (H.put β b) (H'.put β b) (fun x hx=>?_) γ;rw[qn.qZ,qn.qZ,h x hx]
theorem PJ{tm:Bool}{rd:List Nat}{ws:List (Nat×qD)}{H H' :qn}(h:xm rd H H')(γ:Nat):(qS (fM tm rd H ws) H').get γ=(qS ws H').get γ:=by
 cases tm
 ·rfl
 exact KD rd ws H H' h γ
theorem PK{tm:Bool}{rd:List Nat}{ws:List (Nat×qD)}{H:qn}{x:Nat×qD}(h:x∈fM tm rd H ws):x∈ws:=by
 cases tm
 ·exact h
 exact KE rd ws H x h
theorem PI{tm:Bool}{rd:List Nat}{ws:List (Nat×qD)}{H:qn}{γ:Nat}(h:γ∈ws.map (·.1)):γ∈(fM tm rd H ws).map (·.1)\/ ∃b,H.get γ=some b:=by
 cases tm
 ·exact .inl h
 exact KC rd ws H γ h
def bu(G:GP)(O:zS)(all:List Oper)(tm:Bool):List Oper->List Rc->St->St->Prop
 |[],[],s,s' =>s' =s
 |o::r,c::cs,s,s' =>c.E=s.env/\c.H=s.heap/\c.nx=s.nx/\vM all o s.env=some c.on/\
   (c.on=true->(∃ wf,ni G O o.op s.env s.heap s.nx=some (c.v,wf,c.cM)/\c.ws=fM tm c.rd s.heap wf)/\c.rd=mG o.op s.env s.heap)/\
   (c.on=false->c.v= .xS []/\c.ws=[]/\c.cM=s.nx/\c.rd=[])/\bu G O all tm r cs ⟨cP o.dst c.v s.env,qS c.ws s.heap,c.cM⟩ s'
 |_,_,_,_=>False
def V9:Nat->List Rc->List (Nat×List Nat×List Nat)->List (Nat×List Nat×List Nat)
 |_,[],log=>log
 |i,c::cs,log=>V9 (i+1) cs (if c.on=true then(i,c.rd,c.keys)::log else log)
theorem ir{G:GP}{O:zS}(all:List Oper){tm:Bool}: ∀{l:List Oper}{i:Nat}{s s' :St}{log:List (Nat×List Nat×List Nat)},cB G O all tm i l s log=some s' ->
  ∃cs,bu G O all tm l cs s s' /\nk (wb [] all) (V9 i cs log)=true
 |[],i,s,s',log,h=>by
  simp only[cB]at h;split at h<;>cases h;rename_i hc;exact⟨[],rfl,hc⟩
 |o::r,i,s,s',log,h=>by
  simp only[cB]at h;split at h
  ·rename_i hg;split at h
   ·rename_i v ws nx Qj;obtain⟨cs,h1,h2⟩:=ir all h;exact⟨⟨s.env,s.heap,s.nx,true,v,fM tm (mG o.op s.env s.heap) s.heap ws,nx,mG o.op s.env s.heap⟩::cs,⟨rfl,rfl,rfl,hg,fun _=>⟨⟨ws,Qj,rfl⟩,rfl⟩,(fun h=>by cases h),h1⟩,h2⟩
   cases h
  ·rename_i hg;obtain⟨cs,h1,h2⟩:=ir all h;exact⟨⟨s.env,s.heap,s.nx,false,.xS [],[],s.nx,[]⟩::cs,⟨rfl,rfl,rfl,hg,(fun h=>by cases h),fun _=>⟨rfl,rfl,rfl,rfl⟩,h1⟩,h2⟩
  cases h
theorem bu.len{G:GP}{O:zS}{all:List Oper}{tm:Bool}: ∀{l:List Oper}{cs:List Rc}{s s' :St},bu G O all tm l cs s s' ->cs.length=l.length
 |[],[],_,_,_=>rfl
 |[],_::_,_,_,h=>h.elim
 |_::_,[],_,_,h=>h.elim
 |_::r,_::cs,_,_,h=>by simp[bu.len h.2.2.2.2.2.2]
theorem Q9: ∀{l L:List Nat},Xh l L=true-> ∀x∈l,x∉L
 |[],L,_,x,hx=>by simp at hx
 |y::r,L,h,x,hx=>by
  simp only[Xh,zB,Bool.not_eq_true']at h;rcases List.mem_cons.1 hx with rfl|hx
  ·intro hc;rw[(iN L x).2 hc]at h;simp at h
  exact Q9 h.2 x hx
def FR(a b:Rc):Prop:=(∀ x∈a.keys,x∉b.rd)/\(∀ x∈a.keys,x∉b.keys)/\ ∀x∈a.rd,x∉b.keys
theorem oV{ms:List Nat}{j:Nat}{rd wr:List Nat}: ∀{l:List (Nat×List Nat×List Nat)},oa ms j rd wr l=true-> ∀e∈l,ordered ms e.1 j=true\/(Xh e.2.2 rd=true/\Xh e.2.2 wr=true/\Xh e.2.1 wr=true)
 |[],_,e,he=>by simp at he
 |(i,rdi,wri)::r,h,e,he=>by
  simp only[oa,zB,Bool.or_eq_true]at h;rcases List.mem_cons.1 he with rfl|he
  ·rcases h.1 with h1|⟨⟨h1,h2⟩,h3⟩
   ·exact .inl h1
   exact .inr ⟨h1,h2,h3⟩
  exact oV h.2 e he
theorem Va{ms:List Nat}: ∀(cs:List Rc)(i:Nat)(log:List (Nat×List Nat×List Nat)),nk ms (V9 i cs log)=true->
  nk ms log=true/\ ∀(b:Nat)(cb:Rc),cs[b]? =some cb->cb.on=true->
   (∀ e∈log,ordered ms e.1 (i+b)=true\/(Xh e.2.2 cb.rd=true/\Xh e.2.2 cb.keys=true/\Xh e.2.1 cb.keys=true))/\
   ∀(a:Nat)(ca:Rc),a<b->cs[a]? =some ca->ca.on=true->ordered ms (i+a) (i+b)=true\/FR ca cb
 |[],i,log,h=>⟨h,by simp⟩
 |c::cs,i,log,h=>by
  simp only[V9]at h;obtain⟨h1,h2⟩:=Va cs (i+1) _ h;have hlog:nk ms log=true:=by
   split at h1
   ·simp only[nk,zB]at h1;exact h1.2
   exact h1
  refine⟨hlog,fun b cb hb C1=>?_⟩;cases b with
  |zero=>
   simp only[List.getElem?_cons_zero,kX]at hb;subst hb;rw[if_pos C1]at h1;simp only[nk,zB]at h1;exact⟨fun e he=>oV h1.1 e he,fun a ca ha=>by omega⟩
  |succ b=>
   simp only[List.getElem?_cons_succ]at hb;obtain⟨k1,k2⟩:=h2 b cb hb C1;rw[show i+1+b=i+(b+1)from by omega]at k1 k2;refine⟨fun e he=>k1 e (by split<;>simp[he]),fun a ca ha hca hcon=>?_⟩;cases a with
   |zero=>
    simp only[List.getElem?_cons_zero,kX]at hca;subst hca;rcases k1 (i,c.rd,c.keys) (by rw[if_pos hcon];simp)with h|⟨q1,q2,q3⟩
    ·exact .inl h
    exact .inr ⟨Q9 q1,Q9 q2,Q9 q3⟩
   |succ a=>
    simp only[List.getElem?_cons_succ]at hca;have:=k2 a ca (by omega) hca hcon;rwa[show i+1+a=i+(a+1)from by omega]at this
theorem Mr{ms:List Nat}{o:Oper}{i:Nat}(h:(YG ms o).testBit i=true): ∃e∈o.after,Region.binds .any e=true/\(i=e.on\/(ms.getD e.on 0).testBit i=true):=by
 have key: ∀(l:List Edge)(m:Nat),(l.foldl (fun m e=>if Region.binds .any e=true then m ||| (1 <<< e.on) ||| ms.getD e.on 0 else m) m).testBit i=true->
   m.testBit i=true\/ ∃e∈l,Region.binds .any e=true/\(i=e.on\/(ms.getD e.on 0).testBit i=true):=by
  intro l;induction l with
  |nil=>intro m h;exact .inl h
  |cons e l ih=>
   intro m h;simp only[List.foldl_cons]at h;rcases ih _ h with h|⟨e',h1,h2,h3⟩
   ·split at h
    ·rename_i hb;rw[Nat.testBit_or,Nat.testBit_or,Nat.one_shiftLeft,Nat.testBit_two_pow]at h;simp only[Bool.or_eq_true,decide_eq_true_eq]at h;rcases h with (h|h)|h
     ·exact .inl h
     ·exact .inr ⟨e,by simp,hb,.inl h.symm⟩
     exact .inr ⟨e,by simp,hb,.inr h⟩
    exact .inl h
   exact .inr ⟨e',by simp[h1],h2,h3⟩
 rcases key o.after.toList 0 h with h|⟨e,h1,h2⟩
 ·simp at h
 exact⟨e,by simpa using h1,h2⟩
theorem fG: ∀(os:List Oper)(ms:List Nat)(k:Nat),k<ms.length->(wb ms os).getD k 0=ms.getD k 0
 |[],ms,k,_=>rfl
 |o::r,ms,k,h=>by
  simp only[wb];rw[fG r _ k (by simp;omega)];simp[List.getElem?_append_left h]
theorem Qt: ∀(os:List Oper)(ms:List Nat)(j:Nat)(o:Oper),os[j]? =some o-> ∃ms' :List Nat,ms'.length=ms.length+j/\(wb ms os).getD (ms.length+j) 0=YG ms' o/\
  ∀k,k<ms.length+j->ms'.getD k 0=(wb ms os).getD k 0
 |[],ms,j,o,h=>by simp at h
 |o' ::r,ms,j,o,h=>by
  simp only[wb];cases j with
  |zero=>
   simp only[List.getElem?_cons_zero,kX]at h;subst h;refine⟨ms,by simp, ?_,fun k hk=>?_⟩
   ·rw[fG r _ _ (by simp)];simp
   rw[fG r _ k (by simp;omega)];simp at hk;simp[List.getElem?_append_left hk]
  |succ j=>
   simp only[List.getElem?_cons_succ]at h;obtain⟨ms',h1,h2,h3⟩:=Qt r (ms++[YG ms o']) j o h;simp only[List.length_append,List.length_singleton]at h1 h2 h3;rw[show ms.length+1+j=ms.length+(j+1)from by omega]at h1 h2 h3;exact⟨ms',h1,h2,h3⟩
def AQ(os:List Oper):Bool:=os.zipIdx.all fun x=>x.1.after.toList.all fun e=> !Region.binds .any e || decide (e.on<x.2)
def T7(os:List Oper)(ms:List Nat):Bool:=(List.range os.length).all fun j=>(List.range j).all fun i=>ordered ms i j || match os[i]?,os[j]? with
 |some x,some y=>x.apart os.toArray y
 |_,_=>true
def Z4(os:List Oper):Bool:=AQ os&&T7 os (wb [] os)
theorem HY{os:List Oper}(h:AQ os=true){j:Nat}{o:Oper}(ho:os[j]? =some o){e:Edge}(he:e∈o.after)(hb:Region.binds .any e=true):e.on<j:=by
 have h1:=List.all_eq_true.1 h (o,j) (by rw[List.mem_zipIdx_iff_getElem?];exact ho);have h2:=List.all_eq_true.1 h1 e (by simpa using he);simpa[hb]using h2
theorem apart_spec{os:List Oper}{ms:List Nat}(h:T7 os ms=true){i j:Nat}{x y:Oper}(DN:i<j)(hx:os[i]? =some x)(hy:os[j]? =some y):ordered ms i j=true\/x.apart os.toArray y=true:=by
 have hj:j<os.length:=(qG hy).1;have h1:=List.all_eq_true.1 (List.all_eq_true.1 h j (by simpa using hj)) i (by simpa using DN);simpa[hx,hy]using h1
def N6(os:List Oper)(D:Nat->Bool):Prop:= ∀j o,os[j]? =some o->D j=true-> ∀e∈o.after,Region.binds .any e=true->D e.on=true
theorem ix{os:List Oper}(hf:AQ os=true){D:Nat->Bool}(hD:N6 os D): ∀(j:Nat)(o:Oper),os[j]? =some o->
  (∀ e∈o.after,Region.binds .any e=true->D e.on=true)-> ∀i,ordered (wb [] os) i j=true->D i=true:=by
 intro j;induction j using Nat.strongRecOn with
 |_ j ih=>
  intro o ho Wc i hi;obtain⟨ms',h1,h2,h3⟩:=Qt os [] j o ho;simp only[List.length_nil,Nat.zero_add]at h1 h2 h3;unfold ordered at hi;rw[h2]at hi;obtain⟨e,e1,e2,e3⟩:=Mr hi;have xB:=HY hf ho e1 e2;have hDe:=Wc e e1 e2;rcases e3 with rfl|e3
  ·exact hDe
  rw[h3 _ xB]at e3;have Yt:e.on<os.length:=Nat.lt_trans xB (qG ho).1;exact ih e.on xB os[e.on] (kU Yt) (fun e' W8 xQ=>hD e.on _ (kU Yt) hDe e' W8 xQ) i e3
def mY:List Oper->List Rc->Nat->(Nat->Bool)->vF->vF
 |o::os,c::cs,i,D,E=>mY os cs (i+1) D (if D i=true then cP o.dst c.v E else E)
 |_,_,_,_,E=>E
def kV:List Rc->Nat->(Nat->Bool)->qn->qn
 |c::cs,i,D,H=>kV cs (i+1) D (if D i=true then qS c.ws H else H)
 |[],_,_,H=>H
theorem rR{t:Nat}{D D' :Nat->Bool}: ∀(os:List Oper)(cs:List Rc)(i:Nat)(E E' :vF),(∀ k o,os[k]? =some o->o.dst=some t->D (i+k)=D' (i+k))->E.get t=E'.get t->
  (mY os cs i D E).get t=(mY os cs i D' E').get t
 |[],_,_,_,_,_,h=>by simpa[mY]using h
 |_::_,[],_,_,_,_,h=>by simpa[mY]using h
 |o::os,c::cs,i,E,E',hD,h=>by
  simp only[mY];refine rR os cs (i+1) _ _ (fun k o' ho' hd' =>?_) ?_
  ·have:=hD (k+1) o' (by simpa using ho') hd';rwa[show i+1+k=i+(k+1)from by omega]
  by_cases hd:o.dst=some t
  ·have:=hD 0 o rfl hd;simp only[Nat.add_zero]at this;rw[this];split
   ·rw[cQ,cQ,if_pos hd,if_pos hd]
   exact h
  have e1:(if D i=true then cP o.dst c.v E else E).get t=E.get t:=by
   split
   ·rw[cQ,if_neg hd]
   rfl
  have e2:(if D' i=true then cP o.dst c.v E' else E').get t=E'.get t:=by
   split
   ·rw[cQ,if_neg hd]
   rfl
  rw[e1,e2,h]
theorem ee: ∀(os:List Oper)(cs:List Rc)(i:Nat)(D:Nat->Bool)(E:vF),(∀ k,i<=k->D k=false)->mY os cs i D E=E
 |[],_,_,_,_,_=>rfl
 |_::_,[],_,_,_,_=>rfl
 |o::os,c::cs,i,D,E,h=>by
  simp only[mY,h i (xJ _),w9,if_false];exact ee os cs (i+1) D E fun k hk=>h k (by omega)
theorem np: ∀(cs:List Rc)(i:Nat)(D:Nat->Bool)(H:qn),(∀ k,i<=k->D k=false)->kV cs i D H=H
 |[],_,_,_,_=>rfl
 |c::cs,i,D,H,h=>by
  simp only[kV,h i (xJ _),w9,if_false];exact np cs (i+1) D H fun k hk=>h k (by omega)
theorem Js{t:Nat}{D:Nat->Bool}: ∀(os:List Oper)(cs:List Rc)(i:Nat)(E:vF)(j:Nat)(o:Oper)(c:Rc),os[j]? =some o->cs[j]? =some c->o.dst=some t->D (i+j)=true->
  (∀ k o',j<k->os[k]? =some o' ->o'.dst=some t->D (i+k)=false)->(mY os cs i D E).get t=c.v
 |[],_,_,_,j,o,c,ho,_,_,_,_=>by simp at ho
 |_::_,[],_,_,j,o,c,_,hc,_,_,_=>by simp at hc
 |o' ::os,c' ::cs,i,E,j,o,c,ho,hc,hd,hD,hl=>by
  simp only[mY];cases j with
  |zero=>
   simp only[List.getElem?_cons_zero,kX]at ho hc;subst ho hc;simp only[Nat.add_zero]at hD;rw[hD];simp only[if_true];rw[rR (D' :=fun _=>false) os cs (i+1) _ (cP o'.dst c'.v E) (fun k o2 h2 DL=>?_) rfl,ee _ _ _ _ _ (fun _ _=>rfl),cQ,if_pos hd];have:=hl (k+1) o2 (by omega) (by simpa using h2) DL;rwa[show i+1+k=i+(k+1)from by omega]
  |succ j=>
   simp only[List.getElem?_cons_succ]at ho hc;refine Js os cs (i+1) _ j o c ho hc hd (by rwa[show i+1+j=i+(j+1)from by omega]) fun k o2 hk h2 DL=>?_;have:=hl (k+1) o2 (by omega) (by simpa using h2) DL;rwa[show i+1+k=i+(k+1)from by omega]
theorem U0(ws:List (Nat×qD)){H H' :qn}{γ:Nat}(h:H.get γ=H'.get γ):(qS ws H).get γ=(qS ws H').get γ:=by
 by_cases hr:γ∈ws.map (·.1)
 ·exact dV ws H H' γ hr
 have jv: ∀x∈ws,x.1≠γ:=fun x hx e=>hr (by rw[<- e];exact List.mem_map.2 ⟨x,hx,rfl⟩);rw[jB ws _ γ jv,jB ws _ γ jv,h]
theorem nN{γ:Nat}{D D' :Nat->Bool}: ∀(cs:List Rc)(i:Nat)(H H' :qn),(∀ k c,cs[k]? =some c->γ∈c.keys->D (i+k)=D' (i+k))->H.get γ=H'.get γ->
  (kV cs i D H).get γ=(kV cs i D' H').get γ
 |[],_,_,_,_,h=>by simpa[kV]using h
 |c::cs,i,H,H',hD,h=>by
  simp only[kV];refine nN cs (i+1) _ _ (fun k c' UC QO=>?_) ?_
  ·have:=hD (k+1) c' (by simpa using UC) QO;rwa[show i+1+k=i+(k+1)from by omega]
  by_cases hd:γ∈c.keys
  ·have:=hD 0 c rfl hd;simp only[Nat.add_zero]at this;rw[this];split
   ·exact U0 _ h
   exact h
  have jv: ∀x∈c.ws,x.1≠γ:=fun x hx e=>hd (by rw[<- e];exact List.mem_map.2 ⟨x,hx,rfl⟩);have e1:(if D i=true then qS c.ws H else H).get γ=H.get γ:=by
   split
   ·exact jB _ _ _ jv
   rfl
  have e2:(if D' i=true then qS c.ws H' else H').get γ=H'.get γ:=by
   split
   ·exact jB _ _ _ jv
   rfl
  rw[e1,e2,h]
theorem ZN{γ:Nat}{D:Nat->Bool}: ∀(cs:List Rc)(i:Nat)(H:qn)(j:Nat)(c:Rc),cs[j]? =some c->γ∈c.keys->D (i+j)=true->
  (∀ k c',j<k->cs[k]? =some c' ->γ∈c'.keys->D (i+k)=false)-> ∀H',(kV cs i D H).get γ=(qS c.ws H').get γ
 |[],_,_,j,c,hc,_,_,_,_=>by simp at hc
 |c' ::cs,i,H,j,c,hc,hd,hD,hl,H' =>by
  simp only[kV];cases j with
  |zero=>
   simp only[List.getElem?_cons_zero,kX]at hc;subst hc;simp only[Nat.add_zero]at hD;rw[hD];simp only[if_true];rw[nN (D' :=fun _=>false) cs (i+1) _ (qS c'.ws H) (fun k c2 h2 DL=>?_) rfl,np _ _ _ _ (fun _ _=>rfl)]
   ·exact dV _ _ _ _ hd
   have:=hl (k+1) c2 (by omega) (by simpa using h2) DL;rwa[show i+1+k=i+(k+1)from by omega]
  |succ j=>
   simp only[List.getElem?_cons_succ]at hc;refine ZN cs (i+1) _ j c hc hd (by rwa[show i+1+j=i+(j+1)from by omega]) (fun k c2 hk h2 DL=>?_) H';have:=hl (k+1) c2 (by omega) (by simpa using h2) DL;rwa[show i+1+k=i+(k+1)from by omega]
def wH(H:qn)(nx:Nat)(e:bY):Prop:=
 (∀ β b,H.get β=some b->β<nx)->nx<=e.2.2/\(∀ x∈e.2.1,x.1<e.2.2)/\ ∀γ,nx<=γ->γ<e.2.2->γ∈e.2.1.map (·.1)
section
variable {H:qn} {nx:Nat}
theorem keys_nil(v:AV):wH H nx (v,[],nx):=fun _=>⟨xJ _,by simp,fun γ h1 h2=>by simp at h2;omega⟩
theorem pN(v:AV)(b:qD):wH H nx (v,[(nx,b)],nx+1):=fun _=>⟨Nat.le_succ _,by simp,fun γ h1 h2=>by simp at h2 |-; omega⟩
theorem cF(v:AV){β:Nat}{b b' :qD}(h:H.get β=some b):wH H nx (v,[(β,b')],nx):=fun hn=>⟨xJ _,by simpa using hn β b h,fun γ h1 h2=>by simp at h2;omega⟩
theorem rT{v:Option AV}{e:bY}(h:gf v nx=some e):wH H nx e:=by
 unfold gf at h;split at h<;>cases h;exact keys_nil _
theorem TA{v:Option PV}{e:bY}(h:X0 v nx=some e):wH H nx e:=by
 unfold X0 at h;split at h<;>cases h;exact keys_nil _
def oO(H:qn)(ws:List (Nat×qD)):Prop:=ws=[]\/ ∃β b b',H.get β=some b/\ws=[(β,b')]
theorem Yy{ws:List (Nat×qD)}(v:AV)(h:oO H ws):wH H nx (v,ws,nx):=by
 rcases h with rfl|⟨β,b,b',hb,rfl⟩
 ·exact keys_nil _
 exact cF _ hb
theorem fW{ws:Option (List (Nat×qD))}{e:bY}(h:nf ws nx=some e)(hw: ∀l,ws=some l->oO H l):wH H nx e:=by
 unfold nf at h;split at h<;>cases h;exact Yy _ (hw _ rfl)
theorem Ky{sz β zF i o size:Nat}{vs:List AV}{es:List (List AV)}{l:List (Nat×qD)}{b:qD}(hb:H.get β=some b)(h:lN sz β zF i o size vs es=some l):oO H l:=by
 unfold lN at h;cases h
theorem PD{β zF i o size:Nat}{v:AV}{ds:List Nat}{es:List PV}{i6:Option (Nat×Nat×Nat)}{l:List (Nat×qD)}{b:qD}(hb:H.get β=some b)(h:Zr β zF i o size v ds es i6=some l):oO H l:=by
 unfold Zr at h;split at h
 ·split at h<;>cases h;exact .inr ⟨_,_,_,hb,rfl⟩
 cases h
theorem Nr{ti:TI}{a v:AV}{l:List (Nat×qD)}(h:e9 ti a v H=some l):oO H l:=by
 unfold e9 at h;split at h;rotate_left
 ·cases h
 split at h
 ·split at h
  ·rename_i hb;split at h<;>cases h;exact .inr ⟨_,_,_,hb,rfl⟩
  cases h
 ·split at h
  ·split at h
   ·rename_i hb;split at h
    ·split at h
     ·split at h<;>cases h;exact .inr ⟨_,_,_,hb,rfl⟩
     cases h
    cases h
   ·rename_i hb;exact Ky hb h
   cases h
  split at h
  ·rename_i hb;exact Ky hb h
  ·rename_i hb;exact PD hb h
  cases h
 cases h
theorem Y8{tk:TI}{m k v:AV}{l:List (Nat×qD)}(h:cz tk m k v H=some l):oO H l:=by
 unfold cz at h;cases h
theorem W1{G:GP}{t:TypeId}{m k x:AV}{e:bY}(h:ip G t m k x H nx=some e):wH H nx e:=by
 unfold ip at h;split at h
 ·split at h
  ·exact fW h fun l hl=>Y8 hl
  cases h
 cases h
theorem J4{G:GP}{t:TypeId}{x:AV}{e:bY}(h:mV G t x H nx=some e):wH H nx e:=by
 unfold mV at h;cases h
theorem Zv{tk:TI}{m k:AV}{v:PV}{l:List (Nat×qD)}(h:pJ tk m k v H=some l):oO H l:=by
 unfold pJ at h;split at h
 ·split at h
  ·split at h
   ·rename_i hb;split at h<;>cases h<;>exact .inr ⟨_,_,_,hb,rfl⟩
   cases h
  cases h
 cases h
theorem Nn{tk te:TI}{m k:AV}{v:AV}{l:List (Nat×qD)}(h:ij tk te m k H=some (v,l)):oO H l:=by
 unfold ij at h;cases h
theorem Xd{m st:AV}{v:PV}{l:List (Nat×qD)}(h:gj m st v H=some l):oO H l:=by
 unfold gj at h;cases h
theorem Hj{tk:TI}{m k:AV}{l:List (Nat×qD)}(h:rC tk m k H=some l):oO H l:=by
 unfold rC at h;split at h
 ·split at h<;>cases h;exact .inl rfl
 ·split at h
  ·split at h
   ·rename_i hb;split at h<;>cases h<;>exact .inr ⟨_,_,_,hb,rfl⟩
   cases h
  cases h
 cases h
theorem Qd{te:TI}{s:AV}{src:List (List PV)}{e:bY}(h:jH te s src nx nx (nx+1)=some e):wH H nx e:=by
 unfold jH at h;split at h
 ·cases h;exact keys_nil _
 split at h<;>cases h;exact pN _ _
theorem Yn{te:TI}{s:AV}{src:List (List PV)}{β:Nat}{b:qD}{e:bY}(hb:H.get β=some b)(h:jH te s src β nx nx=some e):wH H nx e:=by
 unfold jH at h;split at h
 ·cases h;exact keys_nil _
 split at h<;>cases h;exact cF _ hb
theorem NU{te:TI}{src:List (List AV)}{e:bY}(h:ek te src nx (nx+1)=some e):wH H nx e:=by
 unfold ek at h;split at h
 ·cases h
 split at h<;>cases h;exact pN _ _
theorem NV{te:TI}{src:List (List AV)}{β:Nat}{b:qD}{e:bY}(hb:H.get β=some b)(h:ek te src β nx=some e):wH H nx e:=by
 unfold ek at h;split at h
 ·cases h
 split at h<;>cases h;exact cF _ hb
theorem KO{te:TI}{s x:AV}{e:bY}(h:bx te s x H nx=some e):wH H nx e:=by
 unfold bx at h;split at h
 ·cases h
 split at h;rotate_left
 ·cases h
 split at h
 ·exact NU h
 ·split at h
  ·rename_i hb;split at h
   ·exact NV hb h
   cases h
  ·rename_i hb;split at h<;>cases h;exact cF _ hb
  cases h
 cases h
theorem Y3{te:TI}{s x:AV}{e:bY}(h:ua te s x H nx=some e):wH H nx e:=by
 unfold ua at h;split at h
 ·exact KO h
 split at h;rotate_left
 ·cases h
 split at h
 ·exact Qd h
 ·exact Qd h
 ·split at h
  ·rename_i hb;split at h
   ·exact Yn hb h
   cases h
  ·rename_i hb;split at h
   ·split at h<;>cases h<;>exact cF _ hb
   cases h
  cases h
 cases h
theorem Nl{te:TI}{s x:AV}{e:bY}(h:Q4 te s x H nx=some e):wH H nx e:=by
 unfold Q4 at h;split at h
 ·cases h
 split at h
 ·split at h
  ·rename_i hb;split at h<;>cases h;exact cF _ hb
  cases h
 cases h
theorem KT{src dst:TD}{dte:TypeId->Option TI}{x:AV}{e:bY}(h:pI src dst dte x H nx=some e):wH H nx e:=by
 unfold pI at h;split at h
 ·cases h;exact keys_nil _
 ·cases h;exact keys_nil _
 ·split at h
  ·split at h
   ·split at h
    ·split at h
     ·split at h<;>cases h;exact keys_nil _
     cases h
    cases h
   cases h
  cases h
 ·split at h
  ·split at h
   ·cases h;exact pN _ _
   cases h
  cases h
 cases h
theorem KQ{e0:TypeId}{te:TI}{s x:AV}{e:bY}(h:uU e0 te s x H nx=some e):wH H nx e:=by
 unfold uU at h;cases h
theorem KP{te:TI}{s x:AV}{e:bY}(h:bA te s x H nx=some e):wH H nx e:=by
 unfold bA at h;split at h;rotate_left
 ·cases h
 split at h;rotate_left
 ·cases h
 split at h;rotate_left
 ·cases h
 rename_i hb;split at h<;>cases h;exact cF _ hb
theorem GH{e0:TypeId}{te:TI}{s x:AV}{e:bY}(h:LC (ua te s x H nx) (LC (uU e0 te s x H nx) (bA te s x H nx))=some e):wH H nx e:=by
 cases ha:ua te s x H nx with
 |some r=>
  rw[ha]at h;cases h;exact Y3 ha
 |none=>
  rw[ha]at h;cases hb:uU e0 te s x H nx with
  |some r=>
   rw[hb]at h;cases h;exact KQ hb
  |none=>
   rw[hb]at h;exact KP h
theorem Xe{x:AV}{e:bY}(h:mK x H nx=some e):wH H nx e:=by
 unfold mK at h;cases h
theorem ln{el:TypeId}{p x:AV}{e:bY}(h:uw el p x H nx=some e):wH H nx e:=by
 unfold uw at h;cases h
theorem Y2{G:GP}{t:TypeId}{ti:TI}{e:bY}(h:Q3 G t ti nx=some e):wH H nx e:=by
 unfold Q3 at h;cases h
theorem KS{G:GP}{b:Builtin}{rJ:List TypeId}{args:List AV}{e:bY}(h:pH G b rJ args H nx=some e):wH H nx e:=by
 unfold pH at h;split at h
 ·split at h
  ·split at h
   ·split at h<;>cases h;exact keys_nil _
   cases h
  cases h
 ·exact Xe h
 ·split at h;rotate_left
  ·cases h
  split at h;rotate_left
  ·cases h
  split at h;rotate_left
  ·cases h
  split at h;rotate_left
  ·cases h
  exact ln h
 ·split at h<;>cases h;exact keys_nil _
 ·split at h<;>cases h;exact keys_nil _
 ·split at h
  ·split at h
   ·split at h
    ·exact GH h
    cases h
   ·split at h
    ·exact GH h
    cases h
   cases h
  cases h
 ·split at h
  ·split at h
   ·split at h
    ·exact Nl h
    cases h
   cases h
  cases h
 ·split at h
  ·split at h
   ·split at h
    ·split at h<;>cases h;rename_i hd;exact Yy _ (Hj hd)
    cases h
   cases h
  cases h
 cases h
theorem X1(g:Nat->Nat): ∀(H:qn)(i j:Nat),yV i H=true->i<=j->j<i+H.length->g j∈(vj g H).map (·.1)
 |[],i,j,_,h1,h2=>by simp at h2;omega
 |(k,b)::r,i,j,hk,h1,h2=>by
  simp only[yV,zB,decide_eq_true_eq]at hk;obtain⟨rfl,hk⟩:=hk;simp only[vj,List.map_cons,List.mem_cons];by_cases h:j=k
  ·exact .inl (by rw[h])
  exact .inr (X1 g r (k+1) j hk (by omega) (by simp only[List.length_cons]at h2;omega))
theorem Ji{O:zS}{f:FuncId}{args:List AV}{e:bY}(h:fP O f args H nx=some e):wH H nx e:=by
 unfold fP at h;split at h
 ·cases h
 rename_i L H0 iL;split at h
 ·cases h
 rename_i v H' sN;split at h<;>cases h;rename_i hk;intro hn;obtain⟨hs,_,_⟩:=eJ List.nodup_nil iL;refine⟨Nat.le_add_right _ _,fun x hx=>?_,fun γ h1 h2=>?_⟩
 ·obtain⟨j,_,q2,q3⟩:=sV _ H' 0 hk x hx;rw[q3];by_cases hj:j<L.length
  ·have a1:L[j]? =some L[j]:=by simp[hj]
   obtain⟨b1,Yq,_⟩:=hs.has _ (qX a1);have:=hn _ b1 Yq;have e1:xO L nx j=L[j]:=by simp[xO,a1]
   simp only[e1];omega
  have e1:xO L nx j=nx+(j-L.length):=by simp[xO,List.getElem?_eq_none (by omega:L.length<=j)]
  simp only[e1];omega
 simp only at h2;have:=X1 (xO L nx) H' 0 (L.length+(γ-nx)) hk (Nat.zero_le _) (by omega);have e1:xO L nx (L.length+(γ-nx))=γ:=by
  simp[xO,List.getElem?_eq_none (by omega:L.length<=L.length+(γ-nx))];omega
 rwa[e1]at this
theorem Af{G:GP}{O:zS}{o:Op}{E:vF}{e:bY}(h:ni G O o E H nx=some e):wH H nx e:=by
 cases o with
 |move x=>cases h;exact keys_nil _
 |assign x=>cases h;exact keys_nil _
 |pick c a b=>
  simp only[ni]at h;split at h<;>cases h;exact keys_nil _
 |alloc t=>
  simp only[ni]at h;split at h;rotate_left
  ·cases h
  split at h
  ·exact Y2 h
  cases h;exact pN _ _
 |box t x=>
  simp only[ni]at h;split at h
  ·unfold aBox at h;split at h
   ·split at h<;>cases h;exact keys_nil _
   cases h;exact pN _ _
  cases h
 |build t ps=>
  simp only[ni]at h;split at h
  ·exact rT h
  cases h
 |buildSlice t n ps=>
  simp only[ni]at h;split at h
  ·split at h
   ·split at h
    ·split at h
     ·split at h
      ·split at h<;>cases h;exact pN _ _
      split at h<;>cases h;exact pN _ _
     cases h
    cases h
   cases h
  cases h
 |load t a=>
  simp only[ni]at h;split at h
  ·exact rT h
  cases h
 |store t a x=>
  simp only[ni]at h;split at h
  ·exact fW h fun l hl=>Nr hl
  cases h
 |nilCheck x=>
  simp only[ni]at h;split at h<;>cases h<;>exact keys_nil _
 |binOp op t x y z=>
  simp only[ni]at h;split at h
  ·exact TA h
  cases h
 |unOp op t x=>exact TA h
 |convert s d x=>
  simp only[ni]at h;split at h
  ·exact J4 h
  split at h
  ·exact KT h
  cases h
 |makeFunc fn a b=>
  cases fn with
  |func f=>cases h;exact keys_nil _
  |_=>cases h
 |makeMap t r=>
  cases r with
  |none=>
   simp only[ni]at h;cases h;exact pN _ _
  |some _=>cases h
 |makeSlice t l c=>
  simp only[ni]at h;split at h
  ·unfold tO at h;split at h
   ·split at h
    ·split at h<;>cases h;exact pN _ _
    cases h
   cases h
  cases h
 |slice t x lo hi mx=>
  simp only[ni]at h;split at h
  ·exact rT h
  cases h
 |fieldAddr t x f=>
  simp only[ni]at h;split at h
  ·exact rT h
  cases h
 |field t x f=>
  simp only[ni]at h;split at h
  ·split at h
   ·split at h
    ·split at h
     ·exact rT h
     cases h
    cases h
   cases h
  cases h
 |indexAddr t x i=>
  simp only[ni]at h;split at h
  ·exact rT h
  cases h
 |index t x i=>
  simp only[ni]at h;split at h
  ·split at h
   ·split at h<;>cases h;exact keys_nil _
   ·split at h
    ·split at h
     ·exact rT h
     cases h
    cases h
   cases h
  cases h
 |lookup t m k ok=>
  simp only[ni]at h;split at h
  ·exact rT h
  cases h
 |mapUpdate t m k x=>
  simp only[ni]at h;split at h
  ·exact W1 h
  split at h
  ·split at h
   ·exact fW h fun l hl=>Zv hl
   cases h
  cases h
 |insert t m k x=>
  simp only[ni]at h;split at h
  ·split at h
   ·exact fW h fun l hl=>Zv hl
   cases h
  cases h
 |mapEntry t m k=>
  simp only[ni]at h;split at h
  ·split at h<;>cases h;rename_i he;exact Yy _ (Nn he)
  cases h
 |entryStore t m st x=>
  simp only[ni]at h;split at h
  ·exact fW h fun l hl=>Xd hl
  cases h
 |extract t i=>
  simp only[ni]at h;split at h
  ·split at h<;>cases h;exact keys_nil _
  cases h
 |call c=>
  obtain⟨callee,args,rJ⟩:=c;cases callee with
  |builtin b=>exact KS h
  |value f=>
   simp only[ni]at h;split at h
   ·exact Ji h
   ·exact Ji h
   cases h
  |_=>cases h
 |_=>cases h
end
def Ex.HT:Ex->Exit
 | .normal=> .normal
 | .ret=> .ret
 | .exit id=> .exit id
structure ig (k:Nat) (w:World) (H:qn) (ι:vG) (Im:Nat->Prop) (w' :World) (H' :qn) (ι' :vG) (jA:Nat->Prop):Prop where
 comp: ∀β b,β<k->H.get β=some b-> ∃b',H'.get β=some b' /\xi b b' (ι β) (ι' β)
 im: ∀b,Im b->jA b
 mw: ∀b,jA b->Im b\/w.heap.size<=b\/ ∃β x,H.get β=some x/\x.vn (ι β) b
 bC: ∀β x z,H'.get β=some x->x.vn (ι' β) z->w.heap.size<=z\/ ∃β0 x0,H.get β0=some x0/\x0.vn (ι β0) z
 ka: ∀b,b<w.heap.size->(∀ β x,H.get β=some x-> ¬x.vn (ι β) b)->w'.heap[b]? =w.heap[b]?
 size:w.heap.size<=w'.heap.size
 io:w'.os=w.os/\w'.output=w.output
theorem w8.toK{w w' :World}{H H' :qn}{ι ι' :vG}{Im jA:Nat->Prop}(h:w8 w H ι Im w' H' ι' jA)(k:Nat):ig k w H ι Im w' H' ι' jA:=
 ⟨fun β b _ hb=>h.comp β b hb,h.im,h.mw,h.bC,h.ka,h.size,h.io⟩
theorem ig.full{k:Nat}{w w' :World}{H H' :qn}{ι ι' :vG}{Im jA:Nat->Prop}(h:ig k w H ι Im w' H' ι' jA)(hk: ∀β b,H.get β=some b->β<k):w8 w H ι Im w' H' ι' jA:=
 ⟨fun β b hb=>h.comp β b (hk β b hb) hb,h.im,h.mw,h.bC,h.ka,h.size,h.io⟩
theorem ig.trans{k:Nat}{w w1 w2:World}{H H1 H2:qn}{ι ι1 ι2:vG}{Im aV UB:Nat->Prop}
  (h1:ig k w H ι Im w1 H1 ι1 aV) (h2:ig k w1 H1 ι1 aV w2 H2 ι2 UB):ig k w H ι Im w2 H2 ι2 UB where
 comp:=fun β b hk h=>by
  obtain⟨b1,g1,c1⟩:=h1.comp β b hk h;obtain⟨b2,g2,c2⟩:=h2.comp β b1 hk g1;exact⟨b2,g2,Q8 c1 c2⟩
 im:=fun b h=>h2.im b (h1.im b h)
 mw:=fun b h=>by
  rcases h2.mw b h with h|h|⟨β,x,hx,hu⟩
  ·exact h1.mw b h
  ·exact .inr (.inl (Nat.le_trans h1.size h))
  rcases h1.bC β x b hx hu with h|⟨β0,x0,g,Es⟩
  ·exact .inr (.inl h)
  exact .inr (.inr ⟨β0,x0,g,Es⟩)
 bC:=fun β x z h hu=>by
  rcases h2.bC β x z h hu with h|⟨β0,x0,g,Es⟩
  ·exact .inl (Nat.le_trans h1.size h)
  exact h1.bC β0 x0 z g Es
 ka:=fun b hb hn=>by
  have e1:=h1.ka b hb hn;have e2:=h2.ka b (Nat.lt_of_lt_of_le hb h1.size) (fun β x hx hu=>by
   rcases h1.bC β x b hx hu with h|⟨β0,x0,g,Es⟩
   ·omega
   exact hn β0 x0 g Es)
  exact e2.trans e1
 size:=Nat.le_trans h1.size h2.size
 io:=⟨h2.io.1.trans h1.io.1,h2.io.2.trans h1.io.2⟩
def ll[zN](k:Nat)(w:World)(H:qn)(ι:vG)(Im:Nat->Prop)(nt:Nat)(s:St)(a:Act)(w' :World):Prop:=
 ∃ι' jA,Inv w' a s ι' jA nt/\ig k w H ι Im w' s.heap ι' jA
theorem ll.from[zN]{k:Nat}{w:World}{H:qn}{ι:vG}{Im:Nat->Prop}{w1:World}{H1:qn}{ι1:vG}{aV:Nat->Prop}{nt:Nat}{s:St}{a:Act}{w' :World}(h:ll k w1 H1 ι1 aV nt s a w')(he:ig k w H ι Im w1 H1 ι1 aV):
  ll k w H ι Im nt s a w' :=
 let⟨ι',jA,h1,h2⟩:=h
 ⟨ι',jA,h1,he.trans h2⟩
def FV[zN](P:Program)(G:GP)(f:FuncId)(id:Nat)(s:St)(ex:Ex)(s' :St):Prop:=
 ∀fi c,G.fn f=some fi->zv fi.body id=some c->(∀ i,ex= .exit i->i≠id)/\ ∃n,∀(w:World)(ι:vG)(Im:Nat->Prop)(a:Act),Inv w a s ι Im fi.nt->
  Code.rounds P c (fun e a' w' =>e=(match ex with| .exit i=>Exit.exit i| .ret=> .ret| .normal=> .exit id)/\ll (s.nx-(G.spec f id).off) w s.heap ι Im fi.nt s' a' w') n a w
structure Sound [zN] (P:Program) (G:GP) (O:zS):Prop extends nI P O where
 loop: ∀f id s ex s',O.loop f id s=some (ex,s')->FV P G f id s ex s'
def opsOK(nt:Nat)(ops:List Oper):Bool:=ops.all fun o=>match o.dst with|some d=>decide (d<nt)|none=>true
theorem K6{nt:Nat}{ops:List Oper}(h:opsOK nt ops=true):WJ nt ops:=by
 intro o ho t ht;have:=List.all_eq_true.1 h o ho;rw[ht]at this;simpa using this
section
variable [zN] {P:Program} {w:World} {H:qn} {ι:vG} {Im:Nat->Prop}
theorem QG: ∀(E:vF)(l:List Nat)(t:Nat),(restrict E l).get t=if t∈l then E.get t else .undef
 |E,[],t=>by simp[restrict,vF.get]
 |E,x::r,t=>by
  simp only[restrict,vF.get,QG E r t,List.mem_cons];by_cases h:x=t
  ·subst h;simp
  simp[h,Ne.symm h]
theorem eD{a:Act}{E:vF}(hE: ∀t,RA w H ι Im (E.get t) (a.tmps.getD t undef))(l:List Nat): ∀t,RA w H ι Im ((restrict E l).get t) (a.tmps.getD t undef):=by
 intro t;rw[QG];split
 ·exact hE t
 exact .undef _
theorem sW{a:Act}{s:St}{nt:Nat}(h:Inv w a s ι Im nt)(l:List Nat):Inv w a { s with env:=restrict s.env l } ι Im nt:=
 ⟨h.heap,eD h.env l,h.nx,h.size,h.defers⟩
theorem gb(n:Nat): ∀(H:qn)(γ:Nat),(qn.upto n H).get γ=if γ<n then H.get γ else none
 |[],γ=>by simp[qn.upto,qn.get]
 |(i,b)::r,γ=>by
  simp only[qn.upto];split
  ·rename_i h;simp only[qn.get,gb n r γ];by_cases e:i=γ
   ·subst e;simp[h]
   simp[e]
  rename_i h;rw[gb n r γ];simp only[qn.get];by_cases e:i=γ
  ·subst e;simp[h]
  simp[e]
theorem eb(n:Nat): ∀(l:List Nat),rL n l=true↔ ∀x∈l,x<n
 |[]=>by simp[rL]
 |x::r=>by simp[rL,eb n r]
theorem aO{H' :qn}{x:AV}{v:Value}(hx:RA w H ι Im x v)(hg: ∀β∈x.refs,∀ b,H.get β=some b->H'.get β=some b):RA w H' ι Im x v:=by
 induction hx with
 |undef v=>exact .undef v
 |pv p v h=>exact .pv p v h
 |ptr β o c hb hk=>exact .ptr β o c (hg β (by simp[AV.refs]) _ hb) hk
 |yT β zF i o b1 o1 b hb xU h=>exact .yT β zF i o b1 o1 b (hg β (by simp[AV.refs]) _ hb) xU h
 |row β zF off n v b ho hb hk xU h=>exact .row β zF off n v b ho (hg β (by simp[AV.refs]) _ hb) hk xU h
 |mS c o b off vs oJ hc hf h=>exact .mS c o b off vs oJ hc hf h
 |aU a=>exact .aU a
 |map β es zI hb=>exact .map β es zI (hg β (by simp[AV.refs]) _ hb)
 |lr f a b va vb Wa Tm _ _ iha ihb=>
  exact .lr f a b va vb Wa Tm (fun i x v h1 h2=>iha i x v h1 h2 fun β hβ=>hg β (by simp only[AV.refs,List.mem_append];exact .inl (vi h1 hβ)))
   (fun i x v h1 h2=>ihb i x v h1 h2 fun β hβ=>hg β (by simp only[AV.refs,List.mem_append];exact .inr (vi h1 hβ)))
 |agg c vs hl hf _ ih=>exact .agg c vs hl hf fun i x v h1 h2=>ih i x v h1 h2 fun β hβ=>hg β (by simp only[AV.refs];exact vi h1 hβ)
 |xS c vs hl _ ih=>exact .xS c vs hl fun i x v h1 h2=>ih i x v h1 h2 fun β hβ=>hg β (by simp only[AV.refs];exact vi h1 hβ)
theorem WE: ∀{E:vF}{n:Nat},vF.below n E=true-> ∀t,∀ β∈(E.get t).refs,β<n
 |[],n,_,t,β,h=>by simp[vF.get,AV.refs]at h
 |(i,v)::r,n,hb,t,β,h=>by
  simp only[vF.below,zB]at hb;simp only[vF.get]at h;split at h
  ·exact(eb n _).1 hb.1 β h
  exact WE hb.2 t β h
theorem Jf: ∀{H:qn}{n:Nat},qn.below n H=true-> ∀{γ:Nat}{b:qD},H.get γ=some b-> ∀β∈b.refs,β<n
 |[],n,_,γ,b,h=>by simp[qn.get]at h
 |(i,c)::r,n,hb,γ,b,h=>by
  simp only[qn.below,zB]at hb;simp only[qn.get]at h;split at h
  ·cases h;exact fun β hβ=>(eb n _).1 hb.1 β hβ
  exact Jf hb.2 h
theorem upto_ok(hi:qW w H ι Im)(n:Nat)(hb:qn.below n (qn.upto n H)=true):qW w (qn.upto n H) ι Im where
 G0:=hi.G0
 W6:=hi.W6
 mX:=fun γ b h=>by
  rw[gb]at h;split at h;rotate_left
  ·cases h
  rename_i xB;have h0:=hi.mX γ b h;have hrefs: ∀β∈b.refs,β<n:=Jf hb (γ:=γ) (by rw[gb,if_pos xB];exact h);cases b with
  |box c=>
   obtain⟨vs,elem,fz,q1,q2,q3,q4,q5⟩:=h0;refine⟨vs,elem,fz,q1,q2,q3,q4,fun i x v a b=>aO (q5 i x v a b) fun β hβ b' xQ=>?_⟩;rw[gb,if_pos (hrefs β (by simp only[qD.refs];exact vi a hβ))];exact xQ
  |row qq sz es=>cases qq<;>exact h0
  |map es zI=>exact h0
  |yq sz es=>
   obtain⟨vs,elem,fz,q1,q2,q3,q4,q5,q6,q7,q8⟩:=h0;refine⟨vs,elem,fz,q1,q2,q3,q4,q5,q6,q7,fun i e j x a b=>?_⟩;obtain⟨v,k1,k2⟩:=q8 i e j x a b;refine⟨v,k1,aO k2 fun β hβ b' xQ=>?_⟩;rw[gb,if_pos (hrefs β (by
    simp only[qD.refs,List.mem_flatMap]
    exact⟨e,qX a,vi b hβ⟩))]
   exact xQ
  |jI qq ds es i6=>
   cases qq with
   |true=>exact h0
   |false=>
    obtain⟨vs,elem,fz,q1,q2,q3,q4,q5,q6,q7,q8,q9⟩:=h0;refine⟨vs,elem,fz,q1,q2,q3,q4,q5,q6,q7,q8,fun i p k a b=>?_⟩;obtain⟨v,k1,k2,k3⟩:=q9 i p k a b;refine⟨v,k1,k2,fun γ' zF hf=>⟨(k3 γ' zF hf).1,aO (k3 γ' zF hf).2 fun δ hδ c hc=>?_⟩⟩;simp only[AV.refs,List.mem_singleton]at hδ;subst hδ;rw[gb,if_pos (hrefs _ (by simp[qD.refs,hf]))];exact hc
  |xf=>trivial
 inj:=fun γ γ' b b' z h h' u u' =>by
  rw[gb]at h h';split at h;rotate_left
  ·cases h
  split at h';rotate_left
  ·cases h'
  exact hi.inj γ γ' b b' z h h' u u'
 im:=hi.im
 KJ:=fun γ b z h hu=>by
  rw[gb]at h;split at h
  ·exact hi.KJ γ b z h hu
  cases h
theorem Vf{a:Act}{nt:Nat}{s0 s s' :St}{w0:World}{ι0:vG}{oC:Nat->Prop}(h:Inv w a s ι Im nt)
  (UE: ∀β b,s0.heap.get β=some b->β<s0.nx) (he:w8 w0 s0.heap ι0 oC w s.heap ι Im) (l:List Nat) (hr:narrow l s0.nx s=some s'):
  Inv w a s' ι Im nt/\w8 w0 s0.heap ι0 oC w s'.heap ι Im:=by
 unfold narrow at hr;simp only at hr;split at hr<;>cases hr;rename_i hc;simp only[zB]at hc;refine⟨⟨upto_ok h.heap _ hc.2,fun t=>?_,fun β b hb=>?_,h.size,h.defers⟩,⟨fun β b hb=>?_,he.im,he.mw,fun γ x z hx hu=>?_,he.ka,he.size,he.io⟩⟩
 ·refine aO (eD h.env l t) fun β hβ b hb=>?_;rw[gb,if_pos (WE hc.1 t β hβ)];exact hb
 ·simp only[gb]at hb;split at hb
  ·assumption
  cases hb
 ·obtain⟨b',q1,q2⟩:=he.comp β b hb;exact⟨b',by simp only[gb];rw[if_pos (UE β b hb)];exact q1,q2⟩
 simp only[gb]at hx;split at hx
 ·exact he.bC γ x z hx hu
 cases hx
theorem GB{a:Act}{nt:Nat}{s0 s:St}{w0:World}{ι0:vG}{oC:Nat->Prop}(h:Inv w a s ι Im nt)
  (UE: ∀β b,s0.heap.get β=some b->β<s0.nx) (he:w8 w0 s0.heap ι0 oC w s.heap ι Im) (l:List Nat):
  Inv w a (a8 l s0.nx s) ι Im nt/\w8 w0 s0.heap ι0 oC w (a8 l s0.nx s).heap ι Im:=by
 unfold a8;split
 ·rename_i s' eO;exact Vf h UE he l eO
 exact⟨sW h l,he⟩
theorem Bb(g:Nat->Nat): ∀(E:vF)(t:Nat),(Pe g E).get t=(E.get t).rF g
 |[],t=>by simp[Pe,vF.get,AV.rF]
 |(i,v)::r,t=>by
  simp only[Pe,vF.get];split
  ·rfl
  exact Bb g r t
theorem VG: ∀{E:vF}{t β:Nat},β∈(E.get t).refs->β∈VF E
 |[],t,β,h=>by simp[vF.get,AV.refs]at h
 |(i,v)::r,t,β,h=>by
  simp only[vF.get]at h;simp only[VF,List.mem_append];split at h
  ·exact .inl h
  exact .inr (VG h)
theorem Vu(m:Nat)(r:List Nat){β:Nat}(h:β<m):(List.range m++r)[β]? =some β:=by
 rw[List.getElem?_append_left (by simpa using h)];simp[h]
theorem Jj{a:Act}{nt:Nat}{s s' :St}(h:Inv w a s ι Im nt)(l:List Nat)(n:Nat)(hr:canon l n s=some s'):
  ∃ι',Inv w a s' ι' Im nt/\ig n w s.heap ι Im w s'.heap ι' Im:=by
 unfold canon at hr;split at hr<;>cases hr;rename_i L H' iL;obtain⟨hs,JM,rr,hL⟩:=eJ List.nodup_range iL;refine⟨lO ι L,⟨hs.hinv h.heap,fun t=>?_,fun β b hb=>?_,h.size,h.defers⟩,⟨fun β b hk hb=>?_,fun _ h=>h,fun _ h=> .inl h,fun γ x z hx hu=>?_,fun _ _ _=>rfl,xJ _,⟨rfl,rfl⟩⟩⟩
 ·rw[Bb];exact lH _ (eD h.env l t) fun β hβ b hb=>hs.HM (JM β (VG hβ)) b hb
 ·obtain⟨γ,b0,q1,_⟩:=hs.inv (ι:=ι) hb;have:=(qG q1).1;show β<H'.length;rw[hs.len];exact this
 ·have hl:L[β]? =some β:=by rw[hL];exact Vu n rr hk
  refine⟨b.rF (pos L),by rw[hs.look,hl];simp[hb], ?_⟩;have:lO ι L β=ι β:=by simp[lO,hl]
  rw[this];exact ZA (pos L) (vV b (ι β))
 obtain⟨β,b0,h1,h2,rfl,h4⟩:=hs.inv (ι:=ι) hx;rw[qD.bJ,h4]at hu;exact .inr ⟨β,b0,h2,hu⟩
theorem Kn: ∀(E:vF)(n:Nat)(x:AV)(t:Nat),(setEnv E n x).get t=if t=n then x else E.get t
 |[],n,x,t=>by
  simp only[setEnv,vF.get];by_cases h:n=t
  ·simp[h]
  simp[h,Ne.symm h]
 |(i,v)::r,n,x,t=>by
  simp only[setEnv];split
  ·rename_i h;subst h;simp only[vF.get];by_cases h2:i=t
   ·simp[h2]
   simp[h2,Ne.symm h2]
  rename_i h;simp only[vF.get,Kn r n x t];by_cases h2:i=t
  ·subst h2;simp[h]
  simp[h2]
theorem Ij(hi:qW w H ι Im){nx:Nat}(xt: ∀β b,H.get β=some b->β<nx):
  qW w (H.put nx (.row true 0 [])) (jj ι nx ⟨0,0,[]⟩) Im/\w8 w H ι Im w (H.put nx (.row true 0 [])) (jj ι nx ⟨0,0,[]⟩) Im:=by
 have hf:=JC (X:=fun _=>False) (fun β b h=> .inl (xt β b h)) id;exact qW.put (Qh:=GF hf) hi nx (.row true 0 []) ⟨0,0,[]⟩ (fun x hx=>by rw[hf]at hx;cases hx) ⟨xJ _,rfl,rfl⟩ (fun _ _ _=>rfl) (fun h=>by cases h) (fun _=>rfl)
theorem Vh{H' :qn}{nx:Nat}(hg:H'.get nx=some (.row true 0 []))(ι' :vG):RA w H' ι' Im (.row nx 0 0 0) (.slice none 0 0):=
 .row nx 0 0 0 _ _ rfl hg (fun _=>⟨_,_,_,rfl⟩) (fun _ _ _ e=>by cases e;exact xJ _) fun _ _ _ e _=>by cases e;exact⟨xJ _,by simp⟩
theorem Vi{sz:Nat}{v:Value}(h:RA w H ι Im (.pv (.sl true sz [])) v):v= .slice none 0 0:=by
 have:=h.uB;cases this;rfl
theorem cO{a:Act}{nt:Nat}: ∀(l:List Nat){ι:vG}{s:St},Inv w a s ι Im nt->
  ∃ι',Inv w a (jQ l s) ι' Im nt/\w8 w s.heap ι Im w (jQ l s).heap ι' Im
 |[],ι,s,h=>⟨ι,h,w8.refl _ _ _ _⟩
 |t::r,ι,s,h=>by
  simp only[jQ];split
  ·rename_i sz ht;obtain⟨h1,e1⟩:=Ij h.heap h.nx;have hv:a.tmps.getD t undef= .slice none 0 0:=Vi (ht ▸ h.env t);have hinv:Inv w a { env:=setEnv s.env t (.row s.nx 0 0 0),heap:=qn.put s.heap s.nx (.row true 0 []),nx:=s.nx+1 } (jj ι s.nx ⟨0,0,[]⟩) Im nt:=by
    refine⟨h1,fun t' =>?_,fun β b hb=>?_,h.size,h.defers⟩
    ·simp only[Kn];split
     ·rename_i e;subst e;rw[hv];exact Vh (by simp[qn.qZ]) _
     exact(h.env t').mono h.heap e1
    simp only[qn.qZ]at hb;split at hb
    ·rename_i e;subst e;exact Nat.lt_succ_self _
    have:=h.nx β b hb;exact Nat.lt_succ_of_lt this
   obtain⟨ι',h2,e2⟩:=cO r hinv;exact⟨ι',h2,e1.trans e2⟩
  exact cO r h
theorem gH{a:Act}{nt:Nat}: ∀(l:List (Nat×Nat)){ι:vG}{s:St},Inv w a s ι Im nt->
  ∃ι',Inv w a (zL l s) ι' Im nt/\w8 w s.heap ι Im w (zL l s).heap ι' Im
 |[],ι,s,h=>⟨ι,h,w8.refl _ _ _ _⟩
 |(t,k)::r,ι,s,h=>by
  simp only[zL];split;rotate_left
  ·exact gH r h
  rename_i β o ht;split;rotate_left
  ·exact gH r h
  rename_i c hb;split;rotate_left
  ·exact gH r h
  rename_i sz hc;obtain⟨h1,e1⟩:=Ij h.heap h.nx;have hβ:β≠s.nx:=fun e=>by have:=h.nx β _ hb;omega
  have Yq:(qn.put s.heap s.nx (.row true 0 [])).get β=some (.box c):=by simp[qn.qZ,hβ,hb]
  obtain⟨h2,e2⟩:=qW.put (Qh:=TM Yq rfl) (w' :=w) h1 β (.box (c.set (o+k) (.row s.nx 0 0 0))) (jj ι s.nx ⟨0,0,[]⟩ β) (fun x hx=>by rw[Yq]at hx;cases hx;rfl) ⟨xJ _,rfl,rfl⟩ (fun _ _ _=>rfl)
   (fun _=> .inr ⟨_,Yq,rfl,rfl⟩) (fun he=>by
    obtain⟨vs,elem,fz,q1,q2,q3,q4,q5⟩:=h1.box Yq
    refine⟨vs,elem,fz,by simpa using q1,q2,by simpa using q3,fun x hx=>?_,fun i x v hx hv=>?_⟩
    ·rcases List.mem_or_eq_of_mem_set hx with hx|rfl
     ·exact q4 x hx
     rfl
    rw[List.getElem?_set]at hx
    split at hx
    ·rename_i e
     subst e
     split at hx<;>cases hx
     have:=q5 (o+k) _ v hc hv
     rw[Vi this]
     refine Vh ?_ _
     simp[qn.qZ,Ne.symm hβ]
    exact(q5 i x v hx hv).mono h1 he)
  have hinv:Inv w a { env:=s.env,heap:=qn.put (qn.put s.heap s.nx (.row true 0 [])) β (.box (c.set (o+k) (.row s.nx 0 0 0))),nx:=s.nx+1 } (jj (jj ι s.nx ⟨0,0,[]⟩) β (jj ι s.nx ⟨0,0,[]⟩ β)) Im nt:=by
   refine⟨h2,fun t' =>(h.env t').mono h.heap (e1.trans e2),fun γ b hγ=>?_,h.size,h.defers⟩;simp only[qn.qZ]at hγ;split at hγ
   ·rename_i e;subst e;have:=h.nx γ _ hb;exact Nat.lt_succ_of_lt this
   split at hγ
   ·rename_i e;subst e;exact Nat.lt_succ_self _
   have:=h.nx γ b hγ;exact Nat.lt_succ_of_lt this
  obtain⟨ι',h3,e3⟩:=gH r hinv;exact⟨ι',h3,(e1.trans e2).trans e3⟩
theorem AM{a:Act}{nt:Nat}{s:St}(sp:nV)(h:Inv w a s ι Im nt):
  ∃ι' jA,Inv w a (enter sp s) ι' jA nt/\w8 w s.heap ι Im w (enter sp s).heap ι' jA:=by
 unfold enter;obtain⟨ι1,h1,e1⟩:=cO sp.jQ h;obtain⟨ι2,h2,e2⟩:=gH sp.zL h1;obtain⟨Im3,h3,e3⟩:=mN (sJ (zL sp.zL (jQ sp.jQ s)).env (zL sp.zL (jQ sp.jQ s)).heap sp.freeze) h2;exact⟨ι2,Im3,sW h3 sp.YF,(e1.trans e2).trans e3⟩
theorem ig.YD{k k' :Nat}{w w' :World}{H H' :qn}{ι ι' :vG}{Im jA:Nat->Prop}(h:ig k w H ι Im w' H' ι' jA)(hk:k' <=k):ig k' w H ι Im w' H' ι' jA:=
 ⟨fun β b h1 h2=>h.comp β b (by omega) h2,h.im,h.mw,h.bC,h.ka,h.size,h.io⟩
theorem ll.YD[zN]{k k' :Nat}{w:World}{H:qn}{ι:vG}{Im:Nat->Prop}{nt:Nat}{s:St}{a:Act}{w' :World}(h:ll k w H ι Im nt s a w')(hk:k' <=k):ll k' w H ι Im nt s a w' :=
 let⟨ι',jA,h1,h2⟩:=h
 ⟨ι',jA,h1,h2.YD hk⟩
theorem SB{a:Act}{nt:Nat}{s s1:St}(sp:nV)(h:Inv w a s ι Im nt)(hr:fA sp s=some s1):
  ∃ι' jA,Inv w a s1 ι' jA nt/\ig (s1.nx-sp.off) w s.heap ι Im w s1.heap ι' jA/\(∀ β b,s.heap.get β=some b->β<s1.nx-sp.off):=by
 obtain⟨ι1,aV,h1,e1⟩:=AM sp h;have plain:s1=enter sp s->sp.off=0-> ∃ι' jA,Inv w a s1 ι' jA nt/\ig (s1.nx-sp.off) w s.heap ι Im w s1.heap ι' jA/\(∀ β b,s.heap.get β=some b->β<s1.nx-sp.off):=by
  rintro rfl h0;refine⟨ι1,aV,h1,e1.toK _,fun β b hb=>?_⟩;obtain⟨b',q1,_⟩:=e1.comp β b hb;have:=h1.nx β b' q1;omega
 unfold fA at hr;split at hr
 ·rename_i hg;cases hr;exact plain rfl (by simp[nV.off,hg])
 rename_i hg;have cD:sp.off=sp.own:=by simp[nV.off,hg]
 split at hr
 ·rename_i h0;cases hr;exact plain rfl (by omega)
 rename_i k h0;split at hr;rotate_left
 ·cases hr
 rename_i s2 DR;split at hr<;>cases hr;rename_i hn;obtain⟨ι2,h2,e2⟩:=Jj h1 sp.YF s.nx DR;have:s1.nx-sp.off=s.nx:=by omega
 rw[this];exact⟨ι2,aV,h2,(e1.toK _).trans e2,h.nx⟩
theorem Ad{a:Act}{nt:Nat}{s0 s s' :St}{w0:World}{ι0:vG}{oC:Nat->Prop}(sp:nV)(h:Inv w a s ι Im nt)
  (UE: ∀β b,s0.heap.get β=some b->β<s0.nx) (he:w8 w0 s0.heap ι0 oC w s.heap ι Im) (hr:again sp s0.nx s=some s'):
  ∃ι',Inv w a s' ι' Im nt/\ig (s0.nx-sp.off) w0 s0.heap ι0 oC w s'.heap ι' Im/\s0.nx-sp.off<=s'.nx-sp.off:=by
 unfold again at hr;split at hr
 ·rename_i hg;unfold Qo at hr;split at hr<;>cases hr;rename_i hn;obtain⟨ι1,h1,e1⟩:=cO sp.jQ h;obtain⟨ι2,h2,e2⟩:=gH sp.zL h1;exact⟨ι2,sW h2 sp.YF,((he.trans e1).trans e2).toK _,Nat.sub_le_sub_right hn _⟩
 rename_i hg;have cD:sp.off=sp.own:=by simp[nV.off,hg]
 split at hr
 ·rename_i h0;obtain⟨h2,e2⟩:=Vf h UE he _ hr;refine⟨ι,h2,e2.toK _, ?_⟩;unfold narrow at hr;simp only at hr;split at hr<;>cases hr;exact xJ _
 rename_i k h0;split at hr;rotate_left
 ·cases hr
 rename_i s2 DR;split at hr<;>cases hr;rename_i hn;obtain⟨ι1,h1,e1⟩:=cO sp.jQ h;obtain⟨ι2,h2,e2⟩:=gH sp.zL h1;obtain⟨ι3,h3,e3⟩:=Jj h2 sp.YF _ DR;rw[cD,h0];exact⟨ι3,h3,(((he.trans e1).trans e2).toK _).trans e3,by omega⟩
theorem JW{a:Act}{nt:Nat}{s0 s s' :St}{w0:World}{ι0:vG}{oC:Nat->Prop}(sp:nV)(h:Inv w a s ι Im nt)
  (UE: ∀β b,s0.heap.get β=some b->β<s0.nx) (he:w8 w0 s0.heap ι0 oC w s.heap ι Im) (hr:leave sp s0.nx s=some s'):
  ∃ι',Inv w a s' ι' Im nt/\ig (s0.nx-sp.off) w0 s0.heap ι0 oC w s'.heap ι' Im:=by
 unfold leave at hr;split at hr
 ·cases hr;exact⟨ι,sW h sp.out,he.toK _⟩
 rename_i hg;have cD:sp.off=sp.own:=by simp[nV.off,hg]
 split at hr
 ·cases hr;obtain⟨h2,e2⟩:=GB h UE he sp.out;exact⟨ι,h2,e2.toK _⟩
 rename_i k h0;obtain⟨ι3,h3,e3⟩:=Jj h sp.out _ hr;rw[cD,h0];exact⟨ι3,h3,(he.toK _).trans e3⟩
theorem Zg{ex ex' :Ex}{o:Option St}{s:St}(h:left ex o=some (ex',s)):o=some s/\ex' =ex:=by
 unfold left at h;split at h<;>cases h;exact⟨rfl,rfl⟩
end
section
variable [zN] {P:Program} {w:World} {H:qn} {ι:vG} {Im:Nat->Prop}
theorem RA.ext{H' :qn}(h: ∀γ,H'.get γ=H.get γ){x:AV}{v:Value}(hx:RA w H ι Im x v):RA w H' ι Im x v:=
 aO hx fun β _ b hb=>by rw[h];exact hb
theorem qW.ext{H' :qn}(h: ∀γ,H'.get γ=H.get γ)(hi:qW w H ι Im):qW w H' ι Im where
 G0:=hi.G0
 W6:=hi.W6
 mX:=fun β b hb=>by
  rw[h]at hb;have h0:=hi.mX β b hb;cases b with
  |box c=>
   obtain⟨vs,elem,fz,q1,q2,q3,q4,q5⟩:=h0;exact⟨vs,elem,fz,q1,q2,q3,q4,fun i x v a b=>(q5 i x v a b).ext h⟩
  |row qq sz es=>cases qq<;>exact h0
  |map es zI=>exact h0
  |yq sz es=>
   obtain⟨vs,elem,fz,q1,q2,q3,q4,q5,q6,q7,q8⟩:=h0;exact⟨vs,elem,fz,q1,q2,q3,q4,q5,q6,q7,fun i e j x a b=>(q8 i e j x a b).imp fun v k=>⟨k.1,k.2.ext h⟩⟩
  |jI qq ds es i6=>
   cases qq with
   |true=>exact h0
   |false=>
    obtain⟨vs,elem,fz,q1,q2,q3,q4,q5,q6,q7,q8,q9⟩:=h0;refine⟨vs,elem,fz,q1,q2,q3,q4,q5,q6,q7,q8,fun i p k a b=>?_⟩;obtain⟨v,k1,k2,k3⟩:=q9 i p k a b;exact⟨v,k1,k2,fun γ' zF hf=>⟨(k3 γ' zF hf).1,(k3 γ' zF hf).2.ext h⟩⟩
  |xf=>trivial
 inj:=fun β β' b b' z h1 h2=>hi.inj β β' b b' z (by rw[<- h];exact h1) (by rw[<- h];exact h2)
 im:=hi.im
 KJ:=fun β b z hb=>hi.KJ β b z (by rw[<- h];exact hb)
theorem w8.ext{w0:World}{H0 H' :qn}{ι0:vG}{oC:Nat->Prop}(h: ∀γ,H'.get γ=H.get γ)(he:w8 w0 H0 ι0 oC w H ι Im):w8 w0 H0 ι0 oC w H' ι Im where
 comp:=fun β b hb=>by
  obtain⟨b',q1,q2⟩:=he.comp β b hb;exact⟨b',by rw[h];exact q1,q2⟩
 im:=he.im
 mw:=he.mw
 bC:=fun β x z hx=>he.bC β x z (by rw[<- h];exact hx)
 ka:=he.ka
 size:=he.size
 io:=he.io
structure At (G:GP) (O:zS) (all:List Oper) (tm:Bool) (os:List Oper) (cs:List Rc) (i:Nat) (s:St) (j:Nat) (o:Oper) (c:Rc):Prop where
 env:c.E=mY os cs i (fun k=>decide (k<i+j)) s.env
 heap:c.H=kV cs i (fun k=>decide (k<i+j)) s.heap
 guard:vM all o c.E=some c.on
 on:c.on=true->(∃ wf,ni G O o.op c.E c.H c.nx=some (c.v,wf,c.cM)/\c.ws=fM tm c.rd c.H wf)/\c.rd=mG o.op c.E c.H
 off:c.on=false->c.v= .xS []/\c.ws=[]/\c.cM=c.nx/\c.rd=[]
 nx:s.nx<=c.nx
 bd: ∀β b,c.H.get β=some b->β<c.nx
 cM:c.nx<=c.cM
 keys:(∀ x∈c.keys,x<c.cM)/\ ∀γ,c.nx<=γ->γ<c.cM->γ∈c.keys
theorem MO: ∀(ws:List (Nat×qD)){H:qn}{γ:Nat}{b:qD},(qS ws H).get γ=some b->γ∈ws.map (·.1)\/H.get γ=some b
 |ws,H,γ,b,h=>by
  by_cases hr:γ∈ws.map (·.1)
  ·exact .inl hr
  have jv: ∀x∈ws,x.1≠γ:=fun x hx e=>hr (by rw[<- e];exact List.mem_map.2 ⟨x,hx,rfl⟩);rw[jB ws _ γ jv]at h;exact .inr h
theorem Jk{G:GP}{O:zS}{all:List Oper}{tm:Bool}{o:Oper}{r:List Oper}{c:Rc}{cs:List Rc}{s s' :St}(h:bu G O all tm (o::r) (c::cs) s s')(hb: ∀β b,s.heap.get β=some b->β<s.nx):
  s.nx<=c.cM/\(∀ x∈c.keys,x<c.cM)/\(∀ γ,s.nx<=γ->γ<c.cM->γ∈c.keys)/\ ∀β b,(qS c.ws s.heap).get β=some b->β<c.cM:=by
 obtain⟨_,_,_,_,h5,h6,_⟩:=h;have key:s.nx<=c.cM/\(∀ x∈c.ws,x.1<c.cM)/\ ∀γ,s.nx<=γ->γ<c.cM->γ∈c.ws.map (·.1):=by
  cases C1:c.on with
  |true=>
   obtain⟨⟨wf,h8,h9⟩,_⟩:=h5 C1;obtain⟨g1,g2,g3⟩:=Af h8 hb;rw[h9];refine⟨g1,fun x hx=>g2 x (PK hx),fun γ a b=>?_⟩;rcases PI (tm:=tm) (rd:=c.rd) (H:=s.heap) (g3 γ a b)with h|⟨b',h⟩
   ·exact h
   have:=hb γ b' h;omega
  |false=>
   obtain⟨_,e2,e3,_⟩:=h6 C1;rw[e2,e3];exact⟨xJ _,by simp,fun γ a b=>by omega⟩
 obtain⟨k1,k2,k3⟩:=key;refine⟨k1,fun x hx=>?_,k3,fun β b hβ=>?_⟩
 ·obtain⟨y,hy,rfl⟩:=List.mem_map.1 hx;exact k2 y hy
 rcases MO _ hβ with h|h
 ·obtain⟨y,hy,rfl⟩:=List.mem_map.1 h;exact k2 y hy
 have:=hb β b h;omega
theorem Q7{G:GP}{O:zS}{all:List Oper}{tm:Bool}: ∀{os:List Oper}{cs:List Rc}{s s' :St},bu G O all tm os cs s s' ->(∀ β b,s.heap.get β=some b->β<s.nx)-> ∀(i j:Nat)(o:Oper)(c:Rc),os[j]? =some o->cs[j]? =some c->
  At G O all tm os cs i s j o c
 |[],_,_,_,_,_,_,_,_,_,ho,_=>by simp at ho
 |_::_,[],_,_,h,_,_,_,_,_,_,_=>h.elim
 |o' ::os,c' ::cs,s,s',h,hb,i,j,o,c,ho,hc=>by
  obtain⟨k1,k2,k3,k4⟩:=Jk h hb;obtain⟨h1,h2,h3,h4,h5,h6,h7⟩:=h;cases j with
  |zero=>
   simp only[List.getElem?_cons_zero,kX]at ho hc;subst ho hc;refine⟨?_, ?_,by rw[h1];exact h4,by rw[h1,h2,h3];exact h5,by rw[h3];exact h6,by rw[h3];exact xJ _,by rw[h2,h3];exact hb,by rw[h3];exact k1,k2,by rw[h3];exact k3⟩
   ·rw[ee _ _ _ _ _ fun k hk=>by simpa using hk,h1]
   rw[np _ _ _ _ fun k hk=>by simpa using hk,h2]
  |succ j=>
   simp only[List.getElem?_cons_succ]at ho hc;have:=Q7 h7 k4 (i+1) j o c ho hc;have e:(fun k=>decide (k<i+(j+1)))=fun k=>decide (k<i+1+j):=by funext k;rw[show i+(j+1)=i+1+j from by omega]
   refine⟨?_, ?_,this.guard,this.on,this.off,Nat.le_trans k1 this.nx,this.bd,this.cM,this.keys⟩
   ·rw[this.env,e];simp only[mY];rw[if_pos (by simp;omega)]
   rw[this.heap,e];simp only[kV];rw[if_pos (by simp;omega)]
theorem Z3{G:GP}{O:zS}{all:List Oper}{tm:Bool}: ∀{os:List Oper}{cs:List Rc}{s s' :St},bu G O all tm os cs s s' ->(∀ β b,s.heap.get β=some b->β<s.nx)-> ∀(i:Nat),
  s'.env=mY os cs i (fun _=>true) s.env/\s'.heap=kV cs i (fun _=>true) s.heap/\s.nx<=s'.nx/\(∀ β b,s'.heap.get β=some b->β<s'.nx)/\
   (∀(j:Nat)(c:Rc),cs[j]? =some c->s.nx<=c.nx/\c.cM<=s'.nx)/\ ∀(a b:Nat)(ca cb:Rc),a<b->cs[a]? =some ca->cs[b]? =some cb->ca.cM<=cb.nx
 |[],[],s,s',h,hb,i=>by
  have h' :s' =s:=h;subst h';exact⟨rfl,rfl,xJ _,hb,by simp,by simp⟩
 |[],_::_,_,_,h,_,_=>h.elim
 |_::_,[],_,_,h,_,_=>h.elim
 |o::os,c::cs,s,s',h,hb,i=>by
  obtain⟨k1,k2,k3,k4⟩:=Jk h hb;obtain⟨h1,h2,h3,h4,h5,h6,h7⟩:=h;obtain⟨q1,q2,q3,q4,q5,q6⟩:=Z3 h7 k4 (i+1);refine⟨?_, ?_,Nat.le_trans k1 q3,q4,fun j c' UC=>?_,fun a b ca cb eN ha xQ=>?_⟩
  ·rw[q1];simp[mY]
  ·rw[q2];simp[kV]
  ·cases j with
   |zero=>
    simp only[List.getElem?_cons_zero,kX]at UC;subst UC;exact⟨by rw[h3];exact xJ _,q3⟩
   |succ j=>
    simp only[List.getElem?_cons_succ]at UC;obtain⟨r1,r2⟩:=q5 j c' UC;simp only at r1;exact⟨Nat.le_trans k1 r1,r2⟩
  cases b with
  |zero=>omega
  |succ b=>
   simp only[List.getElem?_cons_succ]at xQ;cases a with
   |zero=>
    simp only[List.getElem?_cons_zero,kX]at ha;subst ha;exact(q5 b cb xQ).1
   |succ a=>
    simp only[List.getElem?_cons_succ]at ha;exact q6 a b ca cb (by omega) ha xQ
def S3(nt:Nat)(os:List Oper)(cs:List Rc)(s:St)(w0:World)(ι0:vG)(oC:Nat->Prop)(D:Nat->Bool)(a:Act)(w:World):Prop:=
 ∃ι Im,qW w (kV cs 0 D s.heap) ι Im/\(∀ t,RA w (kV cs 0 D s.heap) ι Im ((mY os cs 0 D s.env).get t) (a.tmps.getD t undef))/\nt<=a.tmps.size/\a.defers=[]/\
  w8 w0 s.heap ι0 oC w (kV cs 0 D s.heap) ι Im
def tM(D:Nat->Bool)(j:Nat):Nat->Bool:=fun k=>decide (k=j) || D k
theorem ER{ops:Array Oper}{o:Oper}{E E' :vF}(h: ∀t∈o.looksAt ops,E'.get t=E.get t):(∀ x∈o.op.operands,ev E' x=ev E x)/\vM ops.toList o E' =vM ops.toList o E:=by
 constructor
 ·intro x hx;cases x with
  |tmp t=>
   refine h t ?_;unfold Oper.looksAt;refine List.mem_append_left _ (List.mem_filterMap.2 ⟨.tmp t,by simpa using hx,rfl⟩)
  |_=>rfl
 unfold vM;cases hg:o.guard with
 |none=>rfl
 |some g=>
  obtain⟨j,want⟩:=g;simp only;cases hj:ops.toList[j]? with
  |none=>rfl
  |some oj=>
   simp only;cases hd:oj.dst with
   |none=>rfl
   |some d=>
    simp only;rw[h d];unfold Oper.looksAt;refine List.mem_append_right _ ?_;rw[hg];have:ops[j]? =some oj:=by rw[<- Array.getElem?_toList];exact hj
    simp[this,hd]
theorem step_ok{G:GP}{O:zS}(hG:vL P G)(hO:nI P O){nt:Nat}{ops:Array Oper}(hd:WJ nt ops.toList)(hdr:Z4 ops.toList=true){cs:List Rc}{s s' :St}{tm:Bool}
  (W7:bu G O ops.toList tm ops.toList cs s s') (SQ: ∀β b,s.heap.get β=some b->β<s.nx) (lY:nk (wb [] ops.toList) (V9 0 cs [])=true)
  {w0:World} {ι0:vG} {oC:Nat->Prop} {D:Nat->Bool} (hD:N6 ops.toList D) {j:Nat} {o:Oper} (ho:ops.toList[j]? =some o) (hj:D j=false)
  (Wc: ∀e∈o.after,Region.binds .any e=true->D e.on=true) {a:Act} {w:World} (h:S3 nt ops.toList cs s w0 ι0 oC D a w) (Q:Exit->Act->World->Prop):
  wpOp P ops Q j (S3 nt ops.toList cs s w0 ι0 oC (tM D j)) a w:=by
 simp only[Z4,zB]at hdr;obtain⟨hfwd,NX⟩:=hdr;have hlen:=W7.len;have M3:j<cs.length:=by rw[hlen];exact(qG ho).1
 obtain⟨c,hc⟩: ∃c,cs[j]? =some c:=⟨_,kU M3⟩;have AX:=Q7 W7 SQ 0 j o c ho hc;obtain⟨_,_,_,_,hnxs,hnxp⟩:=Z3 W7 SQ 0;have hord:=(Va cs 0 [] lY).2;have ahead: ∀i,ordered (wb [] ops.toList) i j=true->D i=true:=ix hfwd hD j o ho Wc;have behind: ∀k,k<ops.toList.length->ordered (wb [] ops.toList) j k=true->D k=false:=fun k hk BK=>by
  cases BF:D k with
  |false=>rfl
  |true=>
   have:=ix hfwd hD k ops.toList[k] (kU hk) (fun e he hb=>hD k _ (kU hk) BF e he hb) j BK;rw[hj]at this;cases this
 have harr:ops.toList.toArray=ops:=by simp
 have hlook: ∀t∈o.looksAt ops,(mY ops.toList cs 0 D s.env).get t=c.E.get t:=by
  intro t ht;rw[AX.env];refine rR _ _ _ _ _ (fun k ok hk hdk=>?_) rfl;simp only[Nat.zero_add];have mF:=(qG hk).1;rcases Nat.lt_trichotomy k j with xB|rfl|BH
  ·rw[decide_eq_true xB];rcases apart_spec NX xB hk ho with h1|h1
   ·exact ahead k h1
   rw[harr]at h1;exact absurd ht ((Oper.apart_spec h1).1 t hdk)
  ·simpa using hj
  rw[decide_eq_false (by omega)];rcases apart_spec NX BH ho hk with h1|h1
  ·exact behind k mF h1
  rw[harr]at h1;exact absurd ht ((Oper.apart_spec h1).2.2 t hdk)
 obtain⟨hevs,hguard⟩:=ER hlook;obtain⟨ι,Im,hi,Xl,bO,G3,hevo⟩:=h;have M5: ∀(k:Nat)(ck:Rc),cs[k]? =some ck->D k=true->j<k->c.on=true->ck.on=true->FR c ck:=fun k ck hk BF BK h1 h2=>by
  rcases(hord k ck hk h2).2 j c BK hc h1 with h3|h3
  ·simp only[Nat.zero_add]at h3;have:=behind k (by rw[<- hlen];exact(qG hk).1) h3;rw[BF]at this;cases this
  exact h3
 have E0: ∀(k:Nat)(ck:Rc),cs[k]? =some ck->D k=false->k<j->c.on=true->ck.on=true->FR ck c:=fun k ck hk BF BK h1 h2=>by
  rcases(hord j c hc h1).2 k ck BK hk h2 with h3|h3
  ·simp only[Nat.zero_add]at h3;rw[ahead k h3]at BF;cases BF
  exact h3
 have Qi: ∀(k:Nat)(ck:Rc),cs[k]? =some ck->ck.on=false->ck.keys=[]:=fun k ck hk cD=>by
  have mF:k<ops.toList.length:=by rw[<- hlen];exact(qG hk).1
  have:=(Q7 W7 SQ 0 k _ ck (kU mF) hk).off cD;unfold Rc.keys;rw[this.2.1];rfl
 have henv' : ∀t,(mY ops.toList cs 0 (tM D j) s.env).get t=(cP o.dst c.v (mY ops.toList cs 0 D s.env)).get t:=by
  intro t;rw[cQ];by_cases hdt:o.dst=some t
  ·rw[if_pos hdt];refine Js _ _ _ _ j o c ho hc hdt (by simp[tM]) fun k ok hk sH hdk=>?_;simp only[Nat.zero_add,tM];rw[decide_eq_false (by omega),Bool.false_or];rcases apart_spec NX hk ho sH with h1|h1
   ·exact behind k (qG sH).1 h1
   rw[harr]at h1;exact absurd hdk ((Oper.apart_spec h1).2.1 t hdt)
  rw[if_neg hdt];refine rR _ _ _ _ _ (fun k ok hk hdk=>?_) rfl;simp only[Nat.zero_add,tM];have:k≠j:=fun e=>by subst e;rw[ho]at hk;cases hk;exact hdt hdk
  simp[this]
 have E5: ∀γ,(kV cs 0 (tM D j) s.heap).get γ=(qS c.ws (kV cs 0 D s.heap)).get γ:=by
  intro γ;by_cases hk:γ∈c.keys
  ·refine ZN cs 0 s.heap j c hc hk (by simp[tM]) (fun k ck BK G1 Xm=>?_) _;simp only[Nat.zero_add,tM];rw[decide_eq_false (by omega),Bool.false_or];cases BF:D k with
   |false=>rfl
   |true=>
    exfalso;have C1:c.on=true:=by
     cases h1:c.on with
     |true=>rfl
     |false=>rw[Qi j c hc h1]at hk;simp at hk
    have C2:ck.on=true:=by
     cases h1:ck.on with
     |true=>rfl
     |false=>rw[Qi k ck G1 h1]at Xm;simp at Xm
    exact(M5 k ck G1 BF BK C1 C2).2.1 γ hk Xm
  have jv: ∀x∈c.ws,x.1≠γ:=fun x hx e=>hk (by rw[<- e];exact List.mem_map.2 ⟨x,hx,rfl⟩);rw[jB _ _ _ jv];refine nN _ _ _ _ (fun k ck G1 Xm=>?_) rfl;simp only[Nat.zero_add,tM];have:k≠j:=fun e=>by subst e;rw[hc]at G1;cases G1;exact hk Xm
  simp[this]
 have ho' :ops[j]? =some o:=by rw[<- Array.getElem?_toList];exact ho
 have hdo: ∀t,o.dst=some t->t<nt:=hd o (qX ho);unfold wpOp;rw[ho'];simp only;have hgd:vM ops.toList o (mY ops.toList cs 0 D s.env)=some c.on:=by rw[hguard];exact AX.guard
 rw[JE Xl hgd];cases C1:c.on with
 |false=>
  rw[if_neg (by simp)];obtain⟨e1,e2,e3,e4⟩:=AX.off C1;have hh: ∀γ,(kV cs 0 (tM D j) s.heap).get γ=(kV cs 0 D s.heap).get γ:=fun γ=>by rw[E5 γ,e2];rfl
  refine⟨ι,Im,hi.ext hh,fun t=>?_,by rw[Act.QC];exact bO,by rw[Act.put_defers];exact G3,hevo.ext hh⟩;rw[henv' t,e1];exact(XC Xl bO hdo GV t).ext hh
 |true=>
  rw[if_pos rfl];refine .inl ?_;obtain⟨⟨wf,e1,e1'⟩,e2⟩:=AX.on C1;have hag:xm (mG o.op c.E c.H) c.H (kV cs 0 D s.heap):=by
   intro γ hγ;rw[AX.heap];refine nN _ _ _ _ (fun k ck G1 Xm=>?_) rfl;simp only[Nat.zero_add];have C2:ck.on=true:=by
    cases h1:ck.on with
    |true=>rfl
    |false=>rw[Qi k ck G1 h1]at Xm;simp at Xm
   rcases Nat.lt_trichotomy k j with xB|rfl|BH
   ·rw[decide_eq_true xB];cases BF:D k with
    |true=>rfl
    |false=>exact absurd (e2 ▸ hγ) ((E0 k ck G1 BF xB C1 C2).1 γ Xm)
   ·simpa using hj
   rw[decide_eq_false (by omega)];cases BF:D k with
   |false=>rfl
   |true=>exact absurd Xm ((M5 k ck G1 BF BH C1 C2).2.2 γ (e2 ▸ hγ))
  have Qj:ni G O o.op (mY ops.toList cs 0 D s.env) (kV cs 0 D s.heap) c.nx=some (c.v,wf,c.cM):=by
   rw[Sf hevs hag];exact e1
  have M0: ∀γ,(kV cs 0 (tM D j) s.heap).get γ=(qS wf (kV cs 0 D s.heap)).get γ:=fun γ=>by
   rw[E5 γ,e1'];exact PJ (by rw[e2];exact hag) γ
  have hX:Bd (fun γ=>c.cM<=γ) (kV cs 0 D s.heap) c.nx:=by
   intro β b hb;by_cases h1:β<c.nx
   ·exact .inl h1
   by_cases h2:c.cM<=β
   ·exact .inr h2
   exfalso;have sG:β∈c.keys:=AX.keys.2 β (by omega) (by omega);have V0:(kV cs 0 D s.heap).get β=s.heap.get β:=by
    rw[nN (D' :=fun _=>false) cs 0 s.heap s.heap (fun k ck G1 Xm=>?_) rfl,np _ _ _ _ fun _ _=>rfl];simp only[Nat.zero_add];cases BF:D k with
    |false=>rfl
    |true=>
     exfalso;have mF:k<ops.toList.length:=by rw[<- hlen];exact(qG G1).1
     have hatk:=Q7 W7 SQ 0 k _ ck (kU mF) G1;have C2:ck.on=true:=by
      cases h1:ck.on with
      |true=>rfl
      |false=>rw[Qi k ck G1 h1]at Xm;simp at Xm
     rcases Nat.lt_trichotomy k j with xB|rfl|BH
     ·have h3:=hatk.keys.1 β Xm;have h4:=hnxp k j ck c xB G1 hc;omega
     ·rw[hj]at BF;cases BF
     exact(M5 k ck G1 BF BH C1 C2).2.1 β sG Xm
   rw[V0]at hb;have h3:=SQ β b hb;have h4:=AX.nx;omega
  refine Ip hG hO hi Xl hX o Qj (fun γ h=>h) _ Q fun u w' ι' jA q1 q2 q3 q4=>?_;refine⟨ι',jA,q1.ext M0,fun t=>?_,by rw[Act.QC];exact bO,by rw[Act.put_defers];exact G3,(hevo.trans q2).ext M0⟩;rw[henv' t];exact(XC (fun t=>(Xl t).mono hi q2) bO hdo q3 t).ext M0
theorem ZG{p p' :Nat->Bool}{j:Nat}: ∀(l:List Nat),(∀ x,p' x=true->p x=true)->j∈l->p j=true->p' j=false->(l.filter p').length<(l.filter p).length
 |[],_,hj,_,_=>by simp at hj
 |x::r,hp,hj,h1,h2=>by
  have hle: ∀(l:List Nat),(l.filter p').length<=(l.filter p).length:=by
   intro l;induction l with
   |nil=>simp
   |cons y r ih=>
    simp only[List.filter_cons];cases h:p' y with
    |true=>rw[hp y h];simp;exact ih
    |false=>
     cases p y<;>simp<;>omega
  simp only[List.filter_cons];rcases List.mem_cons.1 hj with rfl|hj
  ·rw[h1,h2];have:=hle r;simp;omega
  have ih:=ZG r hp hj h1 h2;cases h:p' x with
  |true=>rw[hp x h];simp;exact ih
  |false=>cases p x<;>simp<;>omega
theorem any_ok{G:GP}{O:zS}(hG:vL P G)(hO:nI P O){nt:Nat}{ops:Array Oper}(hd:WJ nt ops.toList)(hdr:Z4 ops.toList=true){cs:List Rc}{s s' :St}{tm:Bool}
  (W7:bu G O ops.toList tm ops.toList cs s s') (SQ: ∀β b,s.heap.get β=some b->β<s.nx) (lY:nk (wb [] ops.toList) (V9 0 cs [])=true)
  {w0:World} {ι0:vG} {oC:Nat->Prop} (Q:Exit->Act->World->Prop) (hq: ∀a w,S3 nt ops.toList cs s w0 ι0 oC (fun _=>true) a w->Q .normal a w):
  ∀(fuel:Nat)(yv:Array Bool)(a:Act)(w:World),yv.size=ops.size->N6 ops.toList (fun k=>yv.getD k false)->
   ((List.range ops.size).filter fun k=> !yv.getD k false).length<=fuel->S3 nt ops.toList cs s w0 ι0 oC (fun k=>yv.getD k false) a w->wpAny P .any ops Q fuel yv a w:=by
 have hfull: ∀(D:Nat->Bool)(a:Act)(w:World),(∀ k,k<ops.size->D k=true)->S3 nt ops.toList cs s w0 ι0 oC D a w->S3 nt ops.toList cs s w0 ι0 oC (fun _=>true) a w:=by
  intro D a w hD ⟨ι,Im,h1,h2,h3,h4,h5⟩;have hh: ∀γ,(kV cs 0 (fun _=>true) s.heap).get γ=(kV cs 0 D s.heap).get γ:=fun γ=>
   nN _ _ _ _ (fun k ck G1 _=>by
    have:k<ops.size:=by have:=W7.len;have:=(qG G1).1;simp at *; omega
    simp[hD k this]) rfl
  refine⟨ι,Im,h1.ext hh,fun t=>?_,h3,h4,h5.ext hh⟩;rw[rR (D' :=D) _ _ _ _ s.env (fun k ok sH _=>by
    have:k<ops.size:=by have:=(qG sH).1;simpa using this
    simp[hD k this]) rfl]
  exact(h2 t).ext hh
 intro fuel;induction fuel with
 |zero=>
  intro yv a w bO hcld hf h;have AW: ∀k,k<ops.size->yv.getD k false=true:=by
   intro k hk;have h0:((List.range ops.size).filter fun k=> !yv.getD k false)=[]:=List.length_eq_zero_iff.1 (by omega);have:=List.filter_eq_nil_iff.1 h0 k (by simpa using hk);simpa using this
  refine⟨?_,hq a w (hfull _ a w AW h)⟩;cases hr:Region.ready .any ops yv with
  |nil=>rfl
  |cons i r=>
   exfalso;have hi:i∈Region.ready .any ops yv:=by rw[hr];simp
   obtain⟨h1,o,ho,_⟩:=mem_ready.1 hi;have xB:i<ops.size:=(Array.getElem?_eq_some_iff.1 ho).1;have h2:=AW i xB;simp[bO,xB]at h1 h2;rw[h1]at h2;cases h2
 |succ fuel ih=>
  intro yv a w bO hcld hf h;refine⟨fun hr=>?_,fun i hi=>?_⟩
  ·refine hq a w (hfull _ a w ?_ h);intro k;induction k using Nat.strongRecOn with
   |_ k UG=>
    intro hk;cases hD:yv.getD k false with
    |true=>rfl
    |false=>
     exfalso;have mF:k<ops.toList.length:=by simpa using hk
     have tR:k∈Region.ready .any ops yv:=by
      refine mem_ready.2 ⟨?_,ops[k],by simp[hk],fun e he hb=>?_⟩
      ·simp[bO,hk]at hD |-;exact hD
      have xB:=HY (by simp only[Z4,zB]at hdr;exact hdr.1) (kU mF) (by simpa using he) hb;exact UG e.on xB (by omega)
     rw[hr]at tR;simp at tR
  obtain⟨h1,o,ho,h2⟩:=mem_ready.1 hi;have xB:i<ops.size:=(Array.getElem?_eq_some_iff.1 ho).1;have ho' :ops.toList[i]? =some o:=by rw[Array.getElem?_toList];exact ho
  have hDi:yv.getD i false=false:=by
   simp[bO,xB]at h1 |-;exact h1
  have nO:(fun k=>(yv.setIfInBounds i true).getD k false)=tM (fun k=>yv.getD k false) i:=by
   funext k;simp only[tM];by_cases hk:k=i
   ·subst hk;simp[bO,xB]
   simp[hk,Array.getElem?_setIfInBounds_ne (Ne.symm hk)]
  refine wpOp_mono (fun a' w' h' =>?_) (step_ok hG hO hd hdr W7 SQ lY hcld ho' hDi h2 h Q);refine ih (yv.setIfInBounds i true) a' w' (by simpa using bO) ?_ ?_ (by rw[nO];exact h')
  ·rw[nO];intro j oj hoj hDj e he hb;simp only[tM,Bool.or_eq_true,decide_eq_true_eq]at hDj |-;rcases hDj with rfl|hDj
   ·rw[ho']at hoj;cases hoj;exact .inr (h2 e he hb)
   exact .inr (hcld j oj hoj hDj e he hb)
  have:=ZG (p:=fun k=> !yv.getD k false) (p' :=fun k=> !(yv.setIfInBounds i true).getD k false) (j:=i) (List.range ops.size) (fun x hx=>?_) (by simpa using xB) (by simpa using hDi) ?_
  ·omega
  ·have oi:(yv.setIfInBounds i true).getD x false=tM (fun k=>yv.getD k false) i x:=congrFun nO x;rw[oi]at hx;simp only[tM,Bool.not_eq_true',Bool.or_eq_false_iff]at hx;simp only[hx.2,Bool.not_false]
  have oi:(yv.setIfInBounds i true).getD i false=tM (fun k=>yv.getD k false) i i:=congrFun nO i;rw[oi];simp[tM]
theorem Pd{G:GP}{O:zS}(hm:P.follows .mixedOrders=true)(hG:vL P G)(hO:nI P O){nt:Nat}(id:Nat)(ops:Array Oper)(hd:WJ nt ops.toList)(hdr:Z4 ops.toList=true)
  {a:Act} {s s' :St} (h:Inv w a s ι Im nt) {tm:Bool} (hr:cB G O ops.toList tm 0 ops.toList s []=some s') (Q:Exit->Act->World->Prop)
  (hq: ∀a' w',dM w s.heap ι Im nt s' a' w' ->Q .normal a' w'):(Code.region id ops true).wp P Q a w:=by
 obtain⟨cs,W7,lY⟩:=ir ops.toList hr;obtain⟨q1,q2,q3,q4,_,_⟩:=Z3 W7 h.nx 0;refine wp_region_any hm ?_;have NZ:({ w with drawn:=w.drawn+1 }:World).heap=w.heap:=rfl;have V0:(fun k=>(Array.replicate ops.size false).getD k false)=fun _=>false:=by
  funext k;simp[Array.getElem?_replicate];split<;>rfl
 refine any_ok hG hO hd hdr W7 h.nx lY (w0:=w) (ι0:=ι) (oC:=Im) Q (fun a' w' h' =>?_) ops.size _ a _ (by simp) ?_ ?_ ?_
 ·obtain⟨ι',jA,p1,p2,p3,p4,p5⟩:=h';rw[<- q2]at p1 p2 p5;rw[<- q1]at p2;exact hq a' w' ⟨ι',jA,⟨p1,p2,q4,p3,p4⟩,p5⟩
 ·rw[V0];intro j o _ hj;cases hj
 ·have:=List.length_filter_le (fun k=> !(Array.replicate ops.size false).getD k false) (List.range ops.size);simpa using this
 rw[V0];refine⟨ι,Im, ?_,fun t=>?_,h.size,h.defers, ?_⟩
 ·rw[np _ _ _ _ fun _ _=>rfl];exact h.heap.yu NZ ⟨rfl,rfl⟩
 ·rw[np _ _ _ _ fun _ _=>rfl,ee _ _ _ _ _ fun _ _=>rfl];exact(h.env t).yu NZ ⟨rfl,rfl⟩ h.heap
 rw[np _ _ _ _ fun _ _=>rfl];exact w8.yu NZ ⟨rfl,rfl⟩
end
def vN:Code->List Nat
 | .seq a b=>vN a++vN b
 | .block id (.loop c)=>id::vN c
 | .block _ c=>vN c
 | .cond _ a b=>vN a++vN b
 | .loop c=>vN c
 |_=>[]
def i5(id:Nat)(b:Code):Code->Prop
 | .seq x y=>i5 id b x\/i5 id b y
 | .block i (.loop c)=>(i=id/\c=b)\/i5 id b c
 | .block _ c=>i5 id b c
 | .cond _ x y=>i5 id b x\/i5 id b y
 | .loop c=>i5 id b c
 |_=>False
theorem YL{id:Nat}{b:Code}: ∀{c:Code},i5 id b c->id∈vN c:=by
 intro c
 fun_induction vN c with
 |case1 x y lB Zd=>
  intro h;simp only[i5]at h;simp only[List.mem_append];exact h.imp lB Zd
 |case2 i c ih=>
  intro h;simp only[i5]at h;rcases h with ⟨rfl,_⟩|h
  ·simp
  simp[ih h]
 |case3 i c hc ih=>
  intro h;refine ih ?_;cases c<;>first|exact absurd rfl (hc _)|exact h
 |case4 o x y lB Zd=>
  intro h;simp only[i5]at h;simp only[List.mem_append];exact h.imp lB Zd
 |case5 c ih=>
  intro h;exact ih (by simpa only[i5]using h)
 |case6 c h1 h2 h3 h4 h5=>
  intro h;cases c<;>simp_all [i5]
theorem l4{id:Nat}: ∀{c:Code},id∉vN c->zv c id=none:=by
 intro c
 fun_induction vN c with
 |case1 x y lB Zd=>
  intro h;simp only[List.mem_append,not_or]at h;simp[zv,lB h.1,Zd h.2]
 |case2 i c ih=>
  intro h;simp only[List.mem_cons,not_or]at h;simp[zv,ih h.2,Ne.symm h.1]
 |case3 i c hc ih=>
  intro h;have:=ih h;cases c<;>first|exact absurd rfl (hc _)|exact this
 |case4 o x y lB Zd=>
  intro h;simp only[List.mem_append,not_or]at h;simp[zv,lB h.1,Zd h.2]
 |case5 c ih=>
  intro h;simpa only[zv]using ih h
 |case6 c h1 h2 h3 h4 h5=>
  intro h;cases c<;>simp_all [zv]
theorem Yf{id:Nat}{b:Code}: ∀{c:Code},(vN c).Nodup->i5 id b c->zv c id=some b:=by
 intro c
 fun_induction vN c with
 |case1 x y lB Zd=>
  intro hn h;rw[List.nodup_append]at hn;simp only[i5]at h;simp only[zv];rcases h with h|h
  ·rw[lB hn.1 h]
  have h1:id∉vN x:=fun hx=>hn.2.2 id hx id (YL h) rfl;rw[l4 h1];exact Zd hn.2.1 h
 |case2 i c ih=>
  intro hn h;rw[List.nodup_cons]at hn;simp only[i5]at h;simp only[zv];rcases h with ⟨rfl,rfl⟩|h
  ·simp
  have:i≠id:=fun e=>hn.1 (e ▸ YL h);rw[if_neg this];exact ih hn.2 h
 |case3 i c hc ih=>
  intro hn h;cases c<;>first|exact absurd rfl (hc _)|exact ih hn h
 |case4 o x y lB Zd=>
  intro hn h;rw[List.nodup_append]at hn;simp only[i5]at h;simp only[zv];rcases h with h|h
  ·rw[lB hn.1 h]
  have h1:id∉vN x:=fun hx=>hn.2.2 id hx id (YL h) rfl;rw[l4 h1];exact Zd hn.2.1 h
 |case5 c ih=>
  intro hn h;simpa only[zv]using ih hn (by simpa only[i5]using h)
 |case6 c h1 h2 h3 h4 h5=>
  intro hn h;cases c<;>simp_all [i5]
def uy(nt:Nat):Code->Bool
 | .region _ ops d=>opsOK nt ops.toList&&(!d || Z4 ops.toList)
 | .seq a b=>uy nt a&&uy nt b
 | .cond _ a b=>uy nt a&&uy nt b
 | .block _ c=>uy nt c
 | .loop c=>uy nt c
 |_=>true
section
variable [zN] {P:Program} {w:World} {H:qn} {ι:vG} {Im:Nat->Prop}
theorem Tf{G:GP}{O:zS}(hm:P.follows .mixedOrders=true)(hG:vL P G)(hO:Sound P G O)(f:FuncId)(fi:FI)(Z6:G.fn f=some fi)(DP:(vN fi.body).Nodup):
  ∀(c:Code),uy fi.nt c=true->(∀ id b,i5 id b c->i5 id b fi.body)-> ∀{w:World}{ι:vG}{Im:Nat->Prop}{a:Act}{s s' :St}{ex:Ex},Inv w a s ι Im fi.nt->
   exec G O f c s=some (ex,s')->c.wp P (fun e a' w' =>e=ex.HT/\dM w s.heap ι Im fi.nt s' a' w') a w:=by
 intro c;induction c with
 |skip=>
  intro _ _ w ι Im a s s' ex h hr;simp only[exec,kX,Prod.mk.injEq]at hr;obtain⟨rfl,rfl⟩:=hr;exact wp_skip ⟨rfl,ι,Im,h,w8.refl _ _ _ _⟩
 |region id ops d=>
  intro sH _ w ι Im a s s' ex h hr;simp only[uy,zB]at sH;cases d with
  |false=>
   simp only[exec]at hr;split at hr<;>cases hr;rename_i hs;obtain⟨ι1,aV,h1,e1⟩:=XA (G.cmd f (2*id)) h;exact D4 hG hO.BC id ops (K6 sH.1) h1 hs _ fun a' w' dJ=>⟨rfl,(dJ.from e1).post _⟩
  |true=>
   simp only[exec]at hr;split at hr<;>cases hr;rename_i hs;obtain⟨ι0,oC,h0,e0⟩:=XA (G.cmd f (2*id)) h;obtain⟨aV,h1,e1⟩:=mN (sJ (mh (G.cmd f (2*id)) s).env (mh (G.cmd f (2*id)) s).heap (G.pre f id)) h0;exact Pd hm hG hO.BC id ops (K6 sH.1) (by simpa using sH.2) h1 hs _ fun a' w' dJ=>⟨rfl,(dJ.from (e0.trans e1)).post _⟩
 |seq x y lB Zd=>
  intro sH Wb w ι Im a s s' ex h hr;simp only[uy,zB]at sH;simp only[exec]at hr;refine wp_seq ?_;split at hr
  ·rename_i s1 nh;refine wp_mono (lB sH.1 (fun id b ho=>Wb id b (by simp only[i5];exact .inl ho)) h nh) fun e a1 w1⟨he,ι1,aV,h1,e1⟩=>?_;subst he;refine wp_mono (Zd sH.2 (fun id b ho=>Wb id b (by simp only[i5];exact .inr ho)) h1 hr) fun e a2 w2⟨he,dJ⟩=>⟨he,dJ.from e1⟩
  ·rename_i s1 nh;cases hr;refine wp_mono (lB sH.1 (fun id b ho=>Wb id b (by simp only[i5];exact .inl ho)) h nh) fun e a1 w1⟨he,dJ⟩=>?_;subst he;exact⟨rfl,dJ⟩
  ·rename_i i s1 nh;cases hr;refine wp_mono (lB sH.1 (fun id b ho=>Wb id b (by simp only[i5];exact .inl ho)) h nh) fun e a1 w1⟨he,dJ⟩=>?_;subst he;exact⟨rfl,dJ⟩
  cases hr
 |cond o x y lB Zd=>
  intro sH Wb w ι Im a s s' ex h hr;simp only[uy,zB]at sH;simp only[exec]at hr;split at hr;rotate_left
  ·cases hr
  rename_i b hb;have hv:=oZ h.env o;rw[hb]at hv;have hp:=hv.uB;generalize hvo:a.eval o=vo at hp;cases hp;refine wp_cond hvo ?_;cases b with
  |true=>exact lB sH.1 (fun id b ho=>Wb id b (by simp only[i5];exact .inl ho)) h hr
  |false=>exact Zd sH.2 (fun id b ho=>Wb id b (by simp only[i5];exact .inr ho)) h hr
 |block id c ih=>
  intro sH Wb w ι Im a s s' ex h hr;simp only[uy]at sH;refine wp_block ?_;by_cases hl: ∃b,c= .loop b
  ·obtain⟨b,rfl⟩:=hl;simp only[exec]at hr;split at hr;rotate_left
   ·cases hr
   rename_i s1 nh;obtain⟨ι1,aV,h1,e1,xB⟩:=SB (G.spec f id) h nh;have Z7:=Yf DP (Wb id b (by simp[i5]));obtain⟨jv,n,hwp⟩:=hO.loop f id _ ex s' hr fi b Z6 Z7;refine wp_mono (wp_loop_rounds n (hwp w ι1 aV a h1)) fun e a' w'⟨he,dJ⟩=>?_;have AU:dM w s.heap ι Im fi.nt s' a' w' :=by
    obtain⟨ι2,UB,k1,k2⟩:=dJ.from e1;exact⟨ι2,UB,k1,k2.full xB⟩
   cases ex with
   |normal=>
    simp only at he;subst he;simp only[Exit.inBlock,if_true];exact⟨rfl,AU⟩
   |ret=>
    simp only at he;subst he;exact⟨rfl,AU⟩
   |exit i=>
    simp only at he;subst he;simp only[Exit.inBlock,jv i rfl,if_false];exact⟨rfl,AU⟩
  have hex:exec G O f (.block id c) s=match exec G O f c s with
   |some (.exit i,s')=>if i=id then some (.normal,s')else some (.exit i,s')
   |some (.normal,s')=>some (.normal,s')
   |some (.ret,s')=>some (.ret,s')
   |none=>none:=by
   cases c<;>first|rfl|exact absurd ⟨_,rfl⟩ hl
  rw[hex]at hr;have Ee: ∀id b,i5 id b c->i5 id b fi.body:=fun i b ho=>Wb i b (by
   cases c<;>first|exact absurd ⟨_,rfl⟩ hl|(simp only[i5];exact ho))
  split at hr
  ·rename_i i s1 nh;refine wp_mono (ih sH Ee h nh) fun e a' w'⟨he,dJ⟩=>?_;subst he;by_cases hi:i=id
   ·rw[if_pos hi]at hr;cases hr;simp only[Ex.HT,Exit.inBlock,if_pos hi];exact⟨trivial,dJ⟩
   rw[if_neg hi]at hr;cases hr;simp only[Ex.HT,Exit.inBlock,if_neg hi];exact⟨trivial,dJ⟩
  ·rename_i s1 nh;cases hr;refine wp_mono (ih sH Ee h nh) fun e a' w'⟨he,dJ⟩=>?_;subst he;exact⟨rfl,dJ⟩
  ·rename_i s1 nh;cases hr;refine wp_mono (ih sH Ee h nh) fun e a' w'⟨he,dJ⟩=>?_;subst he;exact⟨rfl,dJ⟩
  cases hr
 |exit id=>
  intro _ _ w ι Im a s s' ex h hr;simp only[exec,kX,Prod.mk.injEq]at hr;obtain⟨rfl,rfl⟩:=hr;exact wp_exit ⟨rfl,ι,Im,h,w8.refl _ _ _ _⟩
 |ret=>
  intro _ _ w ι Im a s s' ex h hr;simp only[exec,kX,Prod.mk.injEq]at hr;obtain⟨rfl,rfl⟩:=hr;exact wp_ret ⟨rfl,ι,Im,h,w8.refl _ _ _ _⟩
 |_=>intro _ _ w ι Im a s s' ex h hr;simp[exec]at hr
end
theorem iF{i id:Nat}{c:Code}(h: ∀b,c≠ .loop b):zv (.block i c) id=zv c id:=by
 cases c<;>first|rfl|exact absurd rfl (h _)
theorem Xi{nt:Nat}{id:Nat}{b:Code}: ∀{c:Code},uy nt c=true->zv c id=some b->uy nt b=true:=by
 intro c;induction c with
 |seq x y lB Zd=>
  intro h hf;simp only[uy,zB]at h;simp only[zv]at hf;split at hf
  ·rename_i c0 hx;cases hf;exact lB h.1 hx
  exact Zd h.2 hf
 |block i c ih=>
  intro h hf;by_cases hl: ∃x,c= .loop x
  ·obtain⟨x,rfl⟩:=hl;simp only[uy]at h ih;simp only[zv]at hf ih;split at hf
   ·cases hf;exact h
   exact ih h hf
  rw[iF fun x e=>hl ⟨x,e⟩]at hf;exact ih (by simpa only[uy]using h) hf
 |cond o x y lB Zd=>
  intro h hf;simp only[uy,zB]at h;simp only[zv]at hf;split at hf
  ·rename_i c0 hx;cases hf;exact lB h.1 hx
  exact Zd h.2 hf
 |loop c ih=>
  intro h hf;simp only[uy]at h;simp only[zv]at hf;exact ih h hf
 |_=>intro h hf;simp[zv]at hf
theorem Yg{id:Nat}{b:Code}: ∀{c:Code},zv c id=some b-> ∀i x,i5 i x b->i5 i x c:=by
 intro c;induction c with
 |seq x y lB Zd=>
  intro hf i z hz;simp only[zv]at hf;simp only[i5];split at hf
  ·rename_i c0 hx;cases hf;exact .inl (lB hx i z hz)
  exact .inr (Zd hf i z hz)
 |block j c ih=>
  intro hf i z hz;by_cases hl: ∃x,c= .loop x
  ·obtain⟨x,rfl⟩:=hl;simp only[zv]at hf ih;simp only[i5]at ih |-;split at hf
   ·cases hf;exact .inr hz
   exact .inr (ih hf i z hz)
  rw[iF fun x e=>hl ⟨x,e⟩]at hf;have:=ih hf i z hz;cases c<;>first|exact absurd ⟨_,rfl⟩ hl|exact this
 |cond o x y lB Zd=>
  intro hf i z hz;simp only[zv]at hf;simp only[i5];split at hf
  ·rename_i c0 hx;cases hf;exact .inl (lB hx i z hz)
  exact .inr (Zd hf i z hz)
 |loop c ih=>
  intro hf i z hz;simp only[zv]at hf;simp only[i5];exact ih hf i z hz
 |_=>intro hf;simp[zv]at hf
structure S1 (P:Program) (G:GP):Prop where
 fn: ∀f fi,G.fn f=some fi-> ∃fn,P.funcs[f]? =some fn/\(fn.name== "runtime.aX")=false/\fn.body=some fi.body/\fn.ntmps=fi.nt/\fn.results.toList=fi.results/\
  uy fi.nt fi.body=true/\(vN fi.body).Nodup
section
variable [zN] {P:Program} {w:World} {H:qn} {ι:vG} {Im:Nat->Prop}
theorem loop_ok{G:GP}{O:zS}(hm:P.follows .mixedOrders=true)(hG:vL P G)(hF:S1 P G)(hO:Sound P G O){f:FuncId}{id:Nat}{s s' :St}{ex:Ex}
  (hr:nu G O f id s=some (ex,s')):FV P G f id s ex s' :=by
 intro fi c Z6 hc;obtain⟨fn,_,_,_,_,_,sH,DP⟩:=hF.fn f fi Z6;have Tj: ∀{w:World}{ι:vG}{Im:Nat->Prop}{a:Act}{s s' :St}{ex:Ex},Inv w a s ι Im fi.nt->exec G O f c s=some (ex,s')->
   c.wp P (fun e a' w' =>e=ex.HT/\dM w s.heap ι Im fi.nt s' a' w') a w:=
  fun h hr=>Tf hm hG hO f fi Z6 DP c (Xi sH hc) (Yg hc) h hr
 unfold nu at hr;rw[Z6]at hr;simp only[hc]at hr;split at hr
 ·rename_i s1 nh;split at hr;rotate_left
  ·cases hr
  rename_i s2 DR;obtain⟨jv,n,hn⟩:=hO.loop f id s2 ex s' hr fi c Z6 hc;refine⟨jv,n+1,fun w ι Im a h=>?_⟩;rw[rounds_succ];refine wp_mono (Tj h nh) fun e a' w'⟨he,ι1,aV,h1,e1⟩=>?_;subst he;obtain⟨UB,h1,e2⟩:=mN (sJ s1.env s1.heap (G.spec f id).freeze) h1;obtain⟨ι2,h2,e2,xt⟩:=Ad (G.spec f id) h1 h.nx (e1.trans e2) DR;have Tn: ∀(n:Nat){Q Q' :Exit->Act->World->Prop}{a:Act}{w:World},(∀ e a w,Q e a w->Q' e a w)->Code.rounds P c Q n a w->Code.rounds P c Q' n a w:=by
   intro n;induction n with
   |zero=>intro Q Q' a w _ h;exact h
   |succ n ih=>
    intro Q Q' a w hq h;rw[rounds_succ]at h |-;refine wp_mono h fun e a w he=>?_;cases e<;>first|exact ih hq he|exact hq _ _ _ he
  exact Tn n (fun e a w ⟨q1,q2⟩=>⟨q1,(q2.YD xt).from e2⟩) (hn _ _ _ _ h2)
 ·rename_i i s1 nh;by_cases hi:i=id
  ·rw[if_pos hi]at hr;obtain⟨G6,rfl⟩:=Zg hr;refine⟨fun i h=>(by cases h),1,fun w ι Im a h=>?_⟩;rw[rounds_succ];refine wp_mono (Tj h nh) fun e a' w'⟨he,ι1,aV,h1,e1⟩=>?_;subst he;obtain⟨ι2,h2,e2⟩:=JW (G.spec f id) h1 h.nx e1 G6;exact⟨by rw[<- hi];rfl,_,_,h2,e2⟩
  rw[if_neg hi]at hr;obtain⟨G6,rfl⟩:=Zg hr;refine⟨fun j h=>(by cases h;exact hi),1,fun w ι Im a h=>?_⟩;rw[rounds_succ];refine wp_mono (Tj h nh) fun e a' w'⟨he,ι1,aV,h1,e1⟩=>?_;subst he;obtain⟨ι2,h2,e2⟩:=JW (G.spec f id) h1 h.nx e1 G6;exact⟨rfl,_,_,h2,e2⟩
 ·rename_i s1 nh;obtain⟨G6,rfl⟩:=Zg hr;refine⟨fun i h=>(by cases h),1,fun w ι Im a h=>?_⟩;rw[rounds_succ];refine wp_mono (Tj h nh) fun e a' w'⟨he,ι1,aV,h1,e1⟩=>?_;subst he;obtain⟨ι2,h2,e2⟩:=JW (G.spec f id) h1 h.nx e1 G6;exact⟨rfl,_,_,h2,e2⟩
 cases hr
theorem EO{ti:TI}{x r:AV}{v:Value}(hx:RA w H ι Im x v)(hr:oP ti x H=some r): ∃a,v= .pointer (some a):=by
 unfold oP at hr;split at hr
 ·cases hx;exact⟨_,rfl⟩
 ·cases hx;exact⟨_,rfl⟩
 ·cases hx;exact⟨_,rfl⟩
 ·cases hx with|pv _ _ h=>cases h;exact⟨_,rfl⟩
 cases hr
def D5(tmps:Array Value):ResultVar->Sem Value
 | .tmp t=>pure (tmps.getD t undef)
 | .cell a t=>do loadVar t (<- asAddr (tmps.getD a undef))
theorem Pf(fn:Func)(tmps:Array Value):results fn tmps=(do
  let vs <-fn.results.mapM (D5 tmps)
  pure (if h:vs.size=1 then vs[0]else .tuple vs)):=by
 unfold results;rfl
theorem Om{G:GP}(hG:vL P G){a:Act}{s:St}{nt:Nat}(h:Inv w a s ι Im nt){rv:ResultVar}{x:AV}(hr:VJ G s rv=some x):
  ∃v,(D5 a.tmps rv).run P w= .ok v w/\RA w s.heap ι Im x v:=by
 cases rv with
 |tmp t=>
  simp only[VJ,kX]at hr;subst hr;exact⟨_,by simp only[D5,Sem.run_pure],h.env t⟩
 |cell b t=>
  simp only[VJ]at hr;split at hr;rotate_left
  ·cases hr
  rename_i ti i7;obtain⟨ad,had⟩:=EO (h.env b) hr;obtain⟨u,h1,h2⟩:=Ho (hG t ti i7) h.heap (h.env b) hr;refine⟨u, ?_,h2⟩;rw[had]at h1;simp only[Instr.loadAt,Instr.sureAddr,pure_bind]at h1;simp only[D5,had,asAddr,pure_bind];exact h1
theorem VI{G:GP}(hG:vL P G){a:Act}{s:St}{nt:Nat}(h:Inv w a s ι Im nt): ∀{rs:List ResultVar}{xs:List AV},dy G s rs=some xs->
  ∃vs:List Value,(rs.mapM (D5 a.tmps)).run P w= .ok vs w/\xs.length=vs.length/\ ∀(i:Nat) x v,xs[i]? =some x->vs[i]? =some v->RA w s.heap ι Im x v
 |[],xs,hr=>by
  simp only[dy,kX]at hr;subst hr;exact⟨[],by simp,rfl,by simp⟩
 |r::l,xs,hr=>by
  simp only[dy]at hr;split at hr;rotate_left
  ·cases hr
  rename_i v vs h1 h2;cases hr;obtain⟨u,q1,q2⟩:=Om hG h h1;obtain⟨us,q3,q4,q5⟩:=VI hG h h2;refine⟨u::us, ?_,by simp[q4],fun i x v hx hv=>?_⟩
  ·rw[List.mapM_cons];simp only[ji,q1,q3,gm,Sem.run_pure]
  cases i with
  |zero=>simp at hx hv;subst hx;subst hv;exact q2
  |succ i=>simp at hx hv;exact q5 i x v hx hv
theorem Pg{G:GP}(hG:vL P G){fn:Func}{a:Act}{s:St}{nt:Nat}(h:Inv w a s ι Im nt){xs:List AV}(hr:dy G s fn.results.toList=some xs):
  ∃v,(results fn a.tmps).run P w= .ok v w/\RA w s.heap ι Im (o5 xs) v:=by
 obtain⟨vs,h1,h2,h3⟩:=VI hG h hr;rw[Pf,Array.mapM_eq_mapM_toList];have h1' :(Functor.map List.toArray (fn.results.toList.mapM (D5 a.tmps)):Sem (Array Value)).run P w= .ok vs.toArray w:=by
  rw[map_eq_pure_bind,ji,h1,gm,Sem.run_pure]
 rw[ji,h1',gm,Sem.run_pure];refine⟨_,rfl, ?_⟩;split
 ·rename_i hs;obtain⟨v,rfl⟩: ∃v,vs=[v]:=by
   cases vs with
   |nil=>simp at hs
   |cons v r=>cases r with
    |nil=>exact⟨v,rfl⟩
    |cons _ _=>simp at hs
  obtain⟨x,rfl⟩: ∃x,xs=[x]:=by
   cases xs with
   |nil=>simp at h2
   |cons v r=>cases r with
    |nil=>exact⟨v,rfl⟩
    |cons _ _=>simp at h2
  exact h3 0 x v rfl rfl
 rename_i hs;have:o5 xs= .xS xs:=by
  unfold o5;split
  ·exfalso;apply hs;simpa using h2.symm
  rfl
 rw[this];exact .xS xs vs h2 h3
theorem Hy: ∀{args:List AV}{vs:List Value}(k:Nat),args.length=vs.length->(∀(i:Nat) x v,args[i]? =some x->vs[i]? =some v->RA w H ι Im x v)->
  ∀t,(pK k args).get t= .undef\/ ∃i x v,t=k+i/\args[i]? =some x/\vs[i]? =some v/\(pK k args).get t=x
 |[],vs,k,_,_,t=> .inl rfl
 |x::r,[],k,h,_,t=>by simp at h
 |x::r,v::us,k,hl,h,t=>by
  simp only[pK,vF.get];split
  ·rename_i e;exact .inr ⟨0,x,v,by omega,rfl,rfl,rfl⟩
  rcases Hy (args:=r) (vs:=us) (k+1) (by simpa using hl) (fun i x v h1 h2=>h (i+1) x v (by simpa using h1) (by simpa using h2)) t with g|⟨i,y,u,e,g1,g2,g3⟩
  ·exact .inl g
  exact .inr ⟨i+1,y,u,by omega,by simpa using g1,by simpa using g2,g3⟩
theorem unz_ok{x:AV}{v:Value}(h:RA w H ι Im x v):RA w H ι Im (unz x) v:=by
 cases h with
 |aU a=>
  exact .pv _ _ (.sl 0 [] a.block a.off 0 (fun _=>undef) (fun h=>absurd rfl h) (by simp) (by simp) (by simp) (by simp) (by simp) a.spot (fun h=>absurd rfl h))
 |undef v=>exact .undef v
 |pv p v h=>exact .pv p v h
 |ptr β o c hb hk=>exact .ptr β o c hb hk
 |yT β zF i o b1 o1 b hb xU h=>exact .yT β zF i o b1 o1 b hb xU h
 |row β zF off n v b ho hb hk xU h=>exact .row β zF off n v b ho hb hk xU h
 |mS c o b off vs oJ hc hf h=>exact .mS c o b off vs oJ hc hf h
 |map β es zI hb=>exact .map β es zI hb
 |lr f a b va vb Wa Tm ha hb=>exact .lr f a b va vb Wa Tm ha hb
 |agg c vs hl hf h=>exact .agg c vs hl hf h
 |xS c vs hl h=>exact .xS c vs hl h
theorem sub_evo{w0:World}{H0:qn}{ι0:vG}{oC:Nat->Prop}{L:List Nat}{H' :qn}(hs:Q2 H L H')(he:w8 w0 H0 ι0 oC w H ι Im){m:Nat}{r:List Nat}(hL:L=List.range m++r)
  (hm: ∀β b,H0.get β=some b->β<m):w8 w0 H0 ι0 oC w H' (lO ι L) Im where
 comp:=fun β b hb=>by
  obtain⟨b',q1,q2⟩:=he.comp β b hb;have hl:L[β]? =some β:=by rw[hL];exact Vu m r (hm β b hb)
  refine⟨b'.rF (pos L),by rw[hs.look,hl];simp[q1], ?_⟩;have:lO ι L β=ι β:=by simp[lO,hl]
  rw[this];exact ZA _ q2
 im:=he.im
 mw:=he.mw
 bC:=fun γ x z hx hu=>by
  obtain⟨β,b0,h1,h2,rfl,h4⟩:=hs.inv (ι:=ι) hx;rw[qD.bJ,h4]at hu;exact he.bC β b0 z h2 hu
 ka:=he.ka
 size:=he.size
 io:=he.io
theorem SI{w0:World}{H0:qn}{ι0:vG}{oC:Nat->Prop}{a:Act}{s:St}{nt:Nat}(h:Inv w a s ι Im nt){x:AV}{u:Value}(hx:RA w s.heap ι Im x u)
  (he:w8 w0 H0 ι0 oC w s.heap ι Im) {m:Nat} (hm: ∀β b,H0.get β=some b->β<m) {tB:Bool} {r:AV} {H' :qn} (hr:finish m tB x s=some (r,H')):
  ∃ι' jA,qW w H' ι' jA/\w8 w0 H0 ι0 oC w H' ι' jA/\RA w H' ι' jA r u:=by
 have hinv:Inv w ⟨#[u],[]⟩ { s with env:=[(0,x)] } ι Im 0:=by
  refine⟨h.heap,fun t=>?_,h.nx,Nat.zero_le _,rfl⟩;cases t with
  |zero=>simpa[vF.get]using hx
  |succ t=>simp only[vF.get];rw[if_neg (by omega)];exact .undef _
 have key: ∀{s1:St}{aV:Nat->Prop},Inv w ⟨#[u],[]⟩ s1 ι aV 0->w8 w s.heap ι Im w s1.heap ι aV->(match tv s1.heap (List.range m) (unz (s1.env.get 0)).refs with
   |some (L,H)=>some ((unz (s1.env.get 0)).rF (pos L),H)
   |none=>none)=some (r,H')-> ∃ι' jA,qW w H' ι' jA/\w8 w0 H0 ι0 oC w H' ι' jA/\RA w H' ι' jA r u:=by
  intro s1 aV h1 e1 hr;split at hr<;>cases hr;rename_i L iL;obtain⟨hs,JM,rr,hL⟩:=eJ List.nodup_range iL;refine⟨lO ι L,aV,hs.hinv h1.heap,sub_evo hs (he.trans e1) hL hm, ?_⟩;have hv:=unz_ok (h1.env 0);simp only[Array.getD]at hv;exact lH _ hv fun β hβ b hb=>hs.HM (JM β hβ) b hb
 unfold finish at hr;cases tB with
 |true=>
  simp only[if_true]at hr;exact key hinv (w8.refl _ _ _ _) hr
 |false=>
  simp only[w9,if_false]at hr;obtain⟨aV,h1,e1⟩:=mN x.rows hinv;exact key h1 e1 hr
theorem Ow{G:GP}{O:zS}(hm:P.follows .mixedOrders=true)(hG:vL P G)(hF:S1 P G)(hO:Sound P G O){f:FuncId}{args:List AV}{H:qn}{r:AV}{H' :qn}
  (hr:iW G O f args H=some (r,H')):enters P f/\ie P f args H r H' :=by
 unfold iW at hr;split at hr
 ·cases hr
 rename_i fi Z6;obtain⟨fn,g1,g2,g3,g4,g5,sH,DP⟩:=hF.fn f fi Z6;refine⟨⟨fn,g1,g2,by rw[g3];rfl⟩,fun w ι Im vs hi hl hR=>?_⟩;split at hr;rotate_left
 ·cases hr
 rename_i hk;have xB: ∀β b,H.get β=some b->β<H.length:=fun β b hb=>by
  have:=(tX H 0 hk hb).2;omega
 have hinv:Inv w { tmps:=(⟨vs⟩:Array Value)++Array.replicate (fn.ntmps-(⟨vs⟩:Array Value).size) undef,defers:=[] } ⟨pK 0 args,H,H.length⟩ ι Im fi.nt:=by
  refine⟨hi,fun t=>?_,xB, ?_,rfl⟩
  ·simp only;rcases Hy 0 hl hR t with h|⟨i,x,v,e,h1,h2,h3⟩
   ·rw[h];exact .undef _
   rw[h3];have:t=i:=by omega
   subst this;have ht:t<vs.length:=(qG h2).1;have:(((⟨vs⟩:Array Value)++Array.replicate (fn.ntmps-(⟨vs⟩:Array Value).size) undef).getD t undef)=v:=by
    rw[Array.getD_eq_getD_getElem?,Array.getElem?_append_left (by simpa using ht)];simp only[List.getElem?_toArray,h2,Option.getD_some]
   rw[this];exact hR t x v h1 h2
  simp only[Array.size_append,Array.size_replicate];omega
 have hwp: ∀{s s' :St}{ex:Ex}{w:World}{ι:vG}{Im:Nat->Prop}{a:Act},Inv w a s ι Im fi.nt->exec G O f fi.body s=some (ex,s')->
   fi.body.wp P (fun e a' w' =>e=ex.HT/\dM w s.heap ι Im fi.nt s' a' w') a w:=
  fun h hr=>Tf hm hG hO f fi Z6 DP fi.body sH (fun _ _ h=>h) h hr
 have close: ∀{s:St}{ex:Ex},exec G O f fi.body ⟨pK 0 args,H,H.length⟩=some (ex,s)->(ex= .normal\/ex= .ret)->(match dy G (mh (G.cmd f 999999) s) fi.results with
   |some vs=>finish H.length (G.tB f) (o5 vs) (mh (G.cmd f 999999) s)
   |none=>none)=some (r,H')->Calls P f ⟨vs⟩ w fun e w' => ∃v ι' jA,e= .returned v/\qW w' H' ι' jA/\w8 w H ι Im w' H' ι' jA/\RA w' H' ι' jA r v:=by
  intro s ex hs hex hr;split at hr;rotate_left
  ·cases hr
  rename_i xs hxs;refine calls_of_wp g1 g3 (wp_mono (hwp hinv hs) fun e a' w'⟨he,dJ⟩=>?_);obtain⟨ι1,aV,h1,e1⟩:=dJ.post (G.cmd f 999999);subst he;rw[<- g5]at hxs;obtain⟨v,q1,q2⟩:=Pg hG h1 hxs;obtain⟨ι2,UB,k1,k2,k3⟩:=SI h1 q2 e1 xB hr;rcases hex with rfl|rfl
  ·exact⟨h1.defers,v,q1,v,ι2,UB,rfl,k1,k2,k3⟩
  exact⟨h1.defers,v,q1,v,ι2,UB,rfl,k1,k2,k3⟩
 split at hr
 ·cases hr
 ·rename_i ex s jv hs;refine close hs ?_ hr;cases ex with
  |normal=>exact .inl rfl
  |ret=>exact .inr rfl
  |exit i=>exact absurd rfl (jv i)
 cases hr
def o9[zN](P:Program)(S:nJ):Prop:= ∀f g,S.call f=some g-> ∀args H r H',g args H=some (r,H')->enters P f/\ie P f args H r H'
theorem Is[zN]{G:GP}{S:nJ}(hm:P.follows .mixedOrders=true)(hG:vL P G)(hF:S1 P G)(hS:o9 P S): ∀n,Sound P G (K9 G S n)
 |0=>⟨⟨fun _ _ _ _ _ h=>by simp[K9]at h⟩,fun _ _ _ _ _ h=>by simp[K9]at h⟩
 |n+1=>by
  have ih:=Is hm hG hF hS n;refine⟨⟨fun f args H r H' h=>?_⟩,fun f id s ex s' h=>?_⟩
  ·simp only[K9]at h;split at h
   ·rename_i g hg;exact hS f g hg args H r H' h
   exact Ow hm hG hF ih h
  simp only[K9]at h;exact loop_ok hm hG hF ih h
end
def Ends(p:Nat->Prop):Prop:= ∃n,∀ m,n<=m->p m
theorem Ends.and{p q:Nat->Prop}(h1:Ends p)(h2:Ends q):Ends fun m=>p m/\q m:=
 let⟨a,ha⟩:=h1
 let⟨b,hb⟩:=h2
 ⟨max a b,fun m hm=>⟨ha m (by omega),hb m (by omega)⟩⟩
theorem Ends.mono{p q:Nat->Prop}(h: ∀m,p m->q m)(h1:Ends p):Ends q:=
 let⟨a,ha⟩:=h1
 ⟨a,fun m hm=>h m (ha m hm)⟩
theorem Ends.of{p:Prop}(h:p):Ends fun _=>p:=⟨0,fun _ _=>h⟩
theorem Ends.now{p:Nat->Prop}(h:Ends p): ∃n,p n:=let⟨a,ha⟩:=h;⟨a,ha a (xJ _)⟩
open Classical in
noncomputable def TE {α:Type} (F:Nat->Option α):Option α:=
 if h: ∃r,Ends fun m=>F m=some r then some h.choose else none
theorem gD{α:Type}{F:Nat->Option α}{r:α}:TE F=some r↔Ends fun m=>F m=some r:=by
 unfold TE;constructor
 ·intro h;split at h
  ·rename_i hx;cases h;exact hx.choose_spec
  cases h
 intro h;have hx: ∃r,Ends fun m=>F m=some r:=⟨r,h⟩;rw[dif_pos hx];obtain⟨n,h1,h2⟩:=(h.and hx.choose_spec).now;rw[h1]at h2;exact h2.symm
noncomputable def omega (G:GP) (S:nJ):zS:=
 ⟨fun f args H=>TE fun n=>(K9 G S n).call f args H,fun f id s=>TE fun n=>(K9 G S n).loop f id s⟩
section
variable {G:GP} {S:nJ}
variable {O:zS} {F:Nat->zS}
structure cw (O:zS) (F:Nat->zS):Prop where
 call: ∀f args H r,O.call f args H=some r->Ends fun m=>(F m).call f args H=some r
 loop: ∀f id s r,O.loop f id s=some r->Ends fun m=>(F m).loop f id s=some r
theorem Jh(hA:cw O F){f:FuncId}{args:List AV}{H:qn}{nx:Nat}{e:bY}(h:fP O f args H nx=some e):Ends fun m=>fP (F m) f args H nx=some e:=by
 unfold fP at h |-;split at h
 ·cases h
 rename_i L H0 hs;split at h
 ·cases h
 rename_i v H' hc;refine(hA.call _ _ _ _ hc).mono fun m hm=>?_;rw[hm];exact h
theorem Hv(hA:cw O F){o:Op}{E:vF}{H:qn}{nx:Nat}{e:bY}(h:ni G O o E H nx=some e):Ends fun m=>ni G (F m) o E H nx=some e:=by
 cases o with
 |call c=>
  obtain⟨callee,args,rJ⟩:=c;cases callee with
  |value fo=>
   unfold ni at h |-;simp only at h |-;split at h
   ·exact Jh hA h
   ·exact Jh hA h
   cases h
  |_=>exact Ends.of h
 |makeFunc fn a b=>cases fn<;>exact Ends.of h
 |makeMap t r=>cases r<;>exact Ends.of h
 |_=>exact Ends.of h
theorem Py(hA:cw O F){o:Oper}{s s' :St}(h:QK G O o s=some s'):Ends fun m=>QK G (F m) o s=some s' :=by
 unfold QK at h |-;split at h
 ·rename_i v ws nx Qj;refine(Hv hA Qj).mono fun m hm=>?_;rw[hm];exact h
 cases h
theorem Z1(hA:cw O F)(all:List Oper): ∀{l:List Oper}{s s' :St},Z0 G O all l s=some s' ->Ends fun m=>Z0 G (F m) all l s=some s'
 |[],s,s',h=>Ends.of h
 |o::r,s,s',h=>by
  simp only[Z0]at h |-;split at h
  ·split at h
   ·rename_i s1 nh;refine((Py hA nh).and (Z1 hA all h)).mono fun m⟨h1,h2⟩=>?_;simp only[h1,h2]
   cases h
  ·exact Z1 hA all h
  cases h
theorem lp(hA:cw O F)(all:List Oper){tm:Bool}: ∀{l:List Oper}{i:Nat}{s s' :St}{log:List (Nat×List Nat×List Nat)},cB G O all tm i l s log=some s' ->Ends fun m=>cB G (F m) all tm i l s log=some s'
 |[],i,s,s',log,h=>Ends.of h
 |o::r,i,s,s',log,h=>by
  simp only[cB]at h |-;split at h
  ·split at h
   ·rename_i v ws nx Qj;refine((Hv hA Qj).and (lp hA all h)).mono fun m⟨h1,h2⟩=>?_;rw[h1];exact h2
   cases h
  ·exact lp hA all h
  cases h
theorem oh(hA:cw O F){f:FuncId}: ∀{c:Code}{s:St}{r:Ex×St},exec G O f c s=some r->Ends fun m=>exec G (F m) f c s=some r:=by
 intro c;induction c with
 |region id ops d=>
  intro s r h;cases d with
  |false=>
   simp only[exec]at h |-;split at h<;>cases h;rename_i s1 nh;refine(Z1 hA _ nh).mono fun m hm=>?_;rw[hm]
  |true=>
   simp only[exec]at h |-;split at h<;>cases h;rename_i s1 nh;refine(lp hA _ nh).mono fun m hm=>?_;rw[hm]
 |seq x y lB Zd=>
  intro s r h;simp only[exec]at h |-;split at h
  ·rename_i s1 nh;refine((lB nh).and (Zd h)).mono fun m⟨h1,h2⟩=>?_;rw[h1];exact h2
  ·rename_i s1 nh;refine(lB nh).mono fun m h1=>?_;rw[h1];exact h
  ·rename_i i s1 nh;refine(lB nh).mono fun m h1=>?_;rw[h1];exact h
  cases h
 |cond o x y lB Zd=>
  intro s r h;simp only[exec]at h |-;split at h
  ·rename_i b hb;cases b with
   |true=>exact lB h
   |false=>exact Zd h
  cases h
 |block id c ih=>
  intro s r h;by_cases hl: ∃b,c= .loop b
  ·obtain⟨b,rfl⟩:=hl;simp only[exec]at h |-;split at h
   ·exact hA.loop _ _ _ _ h
   cases h
  have hex: ∀O,exec G O f (.block id c) s=match exec G O f c s with
   |some (.exit i,s')=>if i=id then some (.normal,s')else some (.exit i,s')
   |some (.normal,s')=>some (.normal,s')
   |some (.ret,s')=>some (.ret,s')
   |none=>none:=by
   intro O;cases c<;>first|rfl|exact absurd ⟨_,rfl⟩ hl
  simp only[hex]at h |-;split at h
  ·rename_i i s1 nh;refine(ih nh).mono fun m h1=>?_;rw[h1];exact h
  ·rename_i s1 nh;refine(ih nh).mono fun m h1=>?_;rw[h1];exact h
  ·rename_i s1 nh;refine(ih nh).mono fun m h1=>?_;rw[h1];exact h
  cases h
 |skip=>intro s r h;exact Ends.of h
 |exit id=>intro s r h;exact Ends.of h
 |ret=>intro s r h;exact Ends.of h
 |_=>intro s r h;simp[exec]at h
theorem fE(hA:cw O F){f:FuncId}{id:Nat}{s:St}{r:Ex×St}(h:nu G O f id s=some r):Ends fun m=>nu G (F m) f id s=some r:=by
 unfold nu at h |-;split at h
 ·cases h
 rename_i fi Z6;split at h
 ·cases h
 rename_i c hc;split at h
 ·rename_i s1 nh;split at h
  ·rename_i s2 DR;refine((oh hA nh).and (hA.loop _ _ _ _ h)).mono fun m⟨h1,h2⟩=>?_;simp only[h1,DR,h2]
  cases h
 ·rename_i i s1 nh;refine(oh hA nh).mono fun m h1=>?_;simp only[h1];exact h
 ·rename_i s1 nh;refine(oh hA nh).mono fun m h1=>?_;simp only[h1];exact h
 cases h
theorem lJ(hA:cw O F){f:FuncId}{args:List AV}{H:qn}{r:AV×qn}(h:iW G O f args H=some r):Ends fun m=>iW G (F m) f args H=some r:=by
 unfold iW at h |-;split at h
 ·cases h
 rename_i fi Z6;split at h;rotate_left
 ·cases h
 rename_i hk;simp only[hk,if_true];split at h
 ·cases h
 ·rename_i ex s jv hs;refine(oh hA hs).mono fun m h1=>?_;rw[h1];cases ex with
  |exit i=>exact absurd rfl (jv i)
  |_=>exact h
 cases h
theorem Qx:cw (omega G S) (K9 G S):=⟨fun _ _ _ _ h=>gD.1 h,fun _ _ _ _ h=>gD.1 h⟩
theorem Ka: ∀n,cw (K9 G S n) fun _=>K9 G S (n+1)
 |0=>⟨fun _ _ _ _ h=>by simp[K9]at h,fun _ _ _ _ h=>by simp[K9]at h⟩
 |n+1=>by
  have ih:=Ka n;refine⟨fun f args H r h=>?_,fun f id s r h=>?_⟩
  ·rw[K9]at h |-;simp only at h |-;split at h
   ·exact Ends.of h
   exact lJ ih h
  rw[K9]at h |-;simp only at h |-;exact fE ih h
theorem GI{n:Nat}{f:FuncId}{args:List AV}{H:qn}{r:AV×qn}(h:(K9 G S n).call f args H=some r):(omega G S).call f args H=some r:=by
 refine gD.2 ⟨n,fun m hm=>?_⟩;obtain⟨k,rfl⟩:=Nat.exists_eq_add_of_le hm;induction k with
 |zero=>exact h
 |succ k ih=>
  obtain⟨_,h2⟩:=((Ka (n+k)).call f args H r (ih (by omega))).now;exact h2
theorem Il{f:FuncId}{args:List AV}{H:qn}{r:AV×qn}(hs:S.call f=none)(h:iW G (omega G S) f args H=some r):(omega G S).call f args H=some r:=by
 refine gD.2 ?_;obtain⟨n,hn⟩:=lJ Qx h;refine⟨n+1,fun m hm=>?_⟩;obtain⟨k,rfl⟩: ∃k,m=k+1:=⟨m-1,by omega⟩;simp only[K9,hs];exact hn k (by omega)
theorem MF{f:FuncId}{id:Nat}{s:St}{r:Ex×St}(h:nu G (omega G S) f id s=some r):(omega G S).loop f id s=some r:=by
 refine gD.2 ?_;obtain⟨n,hn⟩:=fE Qx h;refine⟨n+1,fun m hm=>?_⟩;obtain⟨k,rfl⟩: ∃k,m=k+1:=⟨m-1,by omega⟩;simp only[K9];exact hn k (by omega)
theorem In[zN]{P:Program}(hm:P.follows .mixedOrders=true)(hG:vL P G)(hF:S1 P G)(hS:o9 P S){f:FuncId}{args:List AV}{H:qn}{r:AV}{H' :qn}
  (h:(omega G S).call f args H=some (r,H')):ie P f args H r H' :=by
 obtain⟨n,hn⟩:=(gD.1 h).now;exact((Is hm hG hF hS n).call f args H r H' hn).2
theorem Ir{n:Nat}{f:FuncId}{id:Nat}{s:St}{r:Ex×St}(h:(K9 G S n).loop f id s=some r):(omega G S).loop f id s=some r:=by
 refine gD.2 ⟨n,fun m hm=>?_⟩;obtain⟨k,rfl⟩:=Nat.exists_eq_add_of_le hm;induction k with
 |zero=>exact h
 |succ k ih=>
  obtain⟨_,h2⟩:=((Ka (n+k)).loop f id s r (ih (by omega))).now;exact h2
theorem Vo(n:Nat):cw (K9 G S n) fun _=>omega G S:=
 ⟨fun _ _ _ _ h=>Ends.of (GI h),fun _ _ _ _ h=>Ends.of (Ir h)⟩
theorem ME(f:FuncId)(id:Nat)(s:St):(omega G S).loop f id s=nu G (omega G S) f id s:=by
 cases h:nu G (omega G S) f id s with
 |some r=>exact MF h
 |none=>
  cases h2:(omega G S).loop f id s with
  |none=>rfl
  |some r=>
   obtain⟨n,hn⟩:=gD.1 h2;have h3:=hn (n+1) (by omega);simp only[K9]at h3;obtain⟨_,h4⟩:=(fE (Vo n) h3).now;rw[h]at h4;cases h4
theorem MD{f:FuncId}(hs:S.call f=none)(args:List AV)(H:qn):(omega G S).call f args H=iW G (omega G S) f args H:=by
 cases h:iW G (omega G S) f args H with
 |some r=>exact Il hs h
 |none=>
  cases h2:(omega G S).call f args H with
  |none=>rfl
  |some r=>
   obtain⟨n,hn⟩:=gD.1 h2;have h3:=hn (n+1) (by omega);simp only[K9,hs]at h3;obtain⟨_,h4⟩:=(lJ (Vo n) h3).now;rw[h]at h4;cases h4
end
end Go.Gm
namespace Go.Gm
open Go
def fnOf(P:Program)(f:FuncId):Option FI:=
 match P.funcs[f]? with
 |some fn=>match fn.body with
  |some b=>if fn.name≠ "runtime.aX" /\uy fn.ntmps b=true/\(vN b).Nodup then some ⟨fn.ntmps,fn.results.toList,b⟩else none
  |none=>none
 |none=>none
theorem fnOf_ok{P:Program}{f:FuncId}{fi:FI}(h:fnOf P f=some fi): ∃fn,P.funcs[f]? =some fn/\(fn.name== "runtime.aX")=false/\fn.body=some fi.body/\fn.ntmps=fi.nt/\
  fn.results.toList=fi.results/\uy fi.nt fi.body=true/\(vN fi.body).Nodup:=by
 unfold fnOf at h;split at h<;>try cases h
 rename_i fn hfn;split at h<;>try cases h
 rename_i b hb;split at h<;>try cases h
 rename_i hc;exact⟨fn,hfn,by simpa using hc.1,hb,rfl,rfl,hc.2.1,hc.2.2⟩
def gpOf(P:Program)(spec:FuncId->Nat->nV)(owned tB:FuncId->Bool)(pre:FuncId->Nat->List Nat)(HX DZ:TypeId->Bool)(cmd:FuncId->Nat->List S0):GP:=⟨tiOf P,fnOf P,spec,owned,tB,pre,HX,DZ,cmd⟩
theorem AR{P:Program}{spec:FuncId->Nat->nV}{owned tB:FuncId->Bool}{pre:FuncId->Nat->List Nat}{HX DZ:TypeId->Bool}{cmd:FuncId->Nat->List S0}:vL P (gpOf P spec owned tB pre HX DZ cmd):=fun _ _ h=>tiOf_ok h
theorem gp_fns{P:Program}{spec:FuncId->Nat->nV}{owned tB:FuncId->Bool}{pre:FuncId->Nat->List Nat}{HX DZ:TypeId->Bool}{cmd:FuncId->Nat->List S0}:S1 P (gpOf P spec owned tB pre HX DZ cmd):=⟨fun _ _ h=>fnOf_ok h⟩
def Vn(w:World)(b:Nat):Prop:=b<w.heap.size
theorem old_inv[zN](w:World)(ι:vG)(hg:zN.ok w/\ ∀b,zN.on b->b<w.heap.size):qW w [] ι (Vn w) where
 G0:=hg.1
 W6:=hg.2
 mX:=fun _ _ h=>by cases h
 inj:=fun _ _ _ _ _ h=>by cases h
 im:=fun _ h=>h
 KJ:=fun _ _ _ h=>by cases h
def S4(w:World)(c:List PV)(cs:List Value):Prop:=
 c.length=cs.length/\(∀ p∈c,p.kv=true)/\ ∀(i:Nat) p v,c[i]? =some p->cs[i]? =some v->RP w (Vn w) p v
theorem S4.append{w:World}{c c' :List PV}{cs DG:List Value}(h:S4 w c cs)(h' :S4 w c' DG):S4 w (c++c') (cs++DG):=by
 obtain⟨a1,a2,a3⟩:=h;obtain⟨b1,b2,b3⟩:=h';refine⟨by simp[a1,b1],fun p hp=>?_,fun i p v h1 h2=>?_⟩
 ·rcases List.mem_append.1 hp with hp|hp
  ·exact a2 p hp
  exact b2 p hp
 by_cases hi:i<c.length
 ·rw[List.getElem?_append_left hi]at h1;rw[List.getElem?_append_left (a1 ▸ hi)]at h2;exact a3 i p v h1 h2
 rw[List.getElem?_append_right (by omega)]at h1;rw[List.getElem?_append_right (by omega)]at h2;exact b3 _ p v h1 (a1 ▸ h2)
theorem S4.one{w:World}{p:PV}{v:Value}(hf:p.kv=true)(h:RP w (Vn w) p v):S4 w [p] [v]:=by
 refine⟨rfl,by simpa using hf,fun i q u h1 h2=>?_⟩;cases i with
 |zero=>simp at h1 h2;subst h1;subst h2;exact h
 |succ i=>simp at h1
theorem S4.nil{w:World}:S4 w [] []:=⟨rfl,by simp,by simp⟩
def jO{α:Type}(P:Program)(t:TypeId)(e:α->List PV)(ok:α->Prop)(n:Nat):Prop:=
 ∀(H:Type)(enc:TypeId×Value->H)(w:World)(base:Nat)(spare:Nat->Bool)(held:Bool)(fuel:Nat)(cs:List Value)(x:DataW H×List MemPlace),fuel<=n->
  DataW.trod enc P w base spare held fuel t cs=some x-> ∃a:α,ok a/\(e a).length=P.cellsOf t/\S4 w (e a) cs
section
variable {P:Program}
theorem jO.int{t:TypeId}{k:IntKind}(ht:P.underlying t=some (.int k))(hc:P.cellsOf t=1)(n:Nat):jO P t (fun x:Int=>[PV.int k x]) (fun x=>(Lit.int k x).wf=true) n:=by
 intro H enc w base spare held fuel cs x _ h;obtain⟨a,rfl,_,hw⟩:=DataW.trod_int ht h;exact⟨a,hw,by simp[hc],.one rfl (.int k a)⟩
theorem jO.bool{t:TypeId}(ht:P.underlying t=some .bool)(hc:P.cellsOf t=1)(n:Nat):jO P t (fun x:Bool=>[PV.bool x]) (fun _=>True) n:=by
 intro H enc w base spare held fuel cs x _ h;obtain⟨a,rfl,_⟩:=DataW.trod_bool ht h;exact⟨a,trivial,by simp[hc],.one rfl (.bool a)⟩
theorem jO.str{t:TypeId}(ht:P.underlying t=some .string)(hc:P.cellsOf t=1)(n:Nat):jO P t (fun x:List UInt8=>[PV.str x]) (fun x=>x.length<=maxLen) n:=by
 intro H enc w base spare held fuel cs x _ h;obtain⟨a,rfl,_,hl⟩:=DataW.trod_string ht h;exact⟨a.data.toList,by simpa using hl,by simp[hc],.one rfl (.str _)⟩
theorem jO.map{α β:Type}{t:TypeId}{e:α->List PV}{ok:α->Prop}{e' :β->List PV}{ok' :β->Prop}{n:Nat}(h:jO P t e ok n)(f:α->β)
  (hf: ∀a,ok a->ok' (f a)/\e' (f a)=e a):jO P t e' ok' n:=by
 intro H enc w base spare held fuel cs x hn hx;obtain⟨a,h1,h2,h3⟩:=h H enc w base spare held fuel cs x hn hx;obtain⟨g1,g2⟩:=hf a h1;exact⟨f a,g1,by rw[g2];exact h2,by rw[g2];exact h3⟩
theorem jO.mono{α:Type}{t:TypeId}{e:α->List PV}{ok:α->Prop}{n m:Nat}(h:jO P t e ok n)(hm:m<=n):jO P t e ok m:=
 fun H enc w base spare held fuel cs x hn hx=>h H enc w base spare held fuel cs x (Nat.le_trans hn hm) hx
def slP(qq:Bool)(sz:Nat)(es:List (List PV)):PV:= .sl (qq&&es.isEmpty) (zC sz es) es
theorem Mp{α:Type}{f:Nat->Option α}: ∀{n:Nat}{l:List α},(List.range n).mapM f=some l->l.length=n/\ ∀i,i<n->f i=l[i]? :=by
 intro n l h;have key: ∀(k:Nat)(m:Nat)(l:List α),(List.range' k m).mapM f=some l->l.length=m/\ ∀i,i<m->f (k+i)=l[i]? :=by
  intro k m;induction m generalizing k with
  |zero=>intro l h;simp at h;subst h;exact⟨rfl,fun i hi=>by omega⟩
  |succ m ih=>
   intro l h;rw[List.range'_succ,List.mapM_cons]at h;simp only[xe,Option.bind_eq_some_iff,Option.pure_def,kX]at h;obtain⟨a,ha,r,hr,rfl⟩:=h;obtain⟨h1,h2⟩:=ih (k+1) r hr;refine⟨by simp[h1],fun i hi=>?_⟩;cases i with
   |zero=>simpa using ha
   |succ i=>
    have:=h2 i (by omega);rw[show k+(i+1)=k+1+i from by omega,this];simp
 have:=key 0 n l (by rwa[<- List.range_eq_range']);simpa using this
theorem Z2{w:World}{base:Nat}{a:Addr}{n:Nat}{cs:List Value}(h:w.cells? base a n=some cs):cs.length=n/\ ∀i,i<n->w.cell? (a.add i)=cs[i]? :=by
 unfold World.cells? at h;split at h
 ·exact Mp h
 cases h
theorem cell_lt{w:World}{a:Addr}{v:Value}(h:w.cell? a=some v):a.block<w.heap.size/\a.spot=none:=by
 unfold World.cell? at h;split at h
 ·rename_i c t f hb;refine⟨?_, ?_⟩
  ·rw[Array.getElem?_eq_some_iff]at hb;exact hb.1
  split at h
  ·cases h
  rename_i hs;cases Tr:a.spot with
  |none=>rfl
  |some s=>simp[Tr]at hs
 cases h
theorem HJ{α β:Type}{p:Nat->α->β->Prop}: ∀(l:List β),(∀ i b,l[i]? =some b-> ∃a,p i a b)-> ∃r:List α,r.length=l.length/\ ∀(i:Nat) a b,r[i]? =some a->l[i]? =some b->p i a b:=by
 intro l;induction l generalizing p with
 |nil=>intro _;exact⟨[],rfl,by simp⟩
 |cons b l ih=>
  intro h;obtain⟨a,ha⟩:=h 0 b rfl;obtain⟨r,h1,h2⟩:=ih (p:=fun i=>p (i+1)) (fun i b' hb=>h (i+1) b' (by simpa using hb));refine⟨a::r,by simp[h1],fun i x y hx hy=>?_⟩;cases i with
  |zero=>simp at hx hy;subst hx;subst hy;exact ha
  |succ i=>exact h2 i x y (by simpa using hx) (by simpa using hy)
theorem jO.slice{α:Type}{t el:TypeId}{sz:Nat}{e:α->List PV}{ok:α->Prop}{n:Nat}(ht:P.underlying t=some (.slice el))(hc:P.cellsOf t=1)(bO:P.cellsOf el=sz)(bU:0<sz)
  (h:jO P el e ok n):jO P t (fun x:Bool×List α=>[slP x.1 sz (x.2.map e)]) (fun x=>x.2.length<=maxLen/\ ∀a∈x.2,ok a) (n+1):=by
 intro H enc w base spare held fuel cs x hn hx;rcases DataW.trod_slice ht hx with ⟨rfl,_⟩|⟨a,len,cap,elems,rest,m,rfl,rfl,_,hb,hlc,hcm,Yt,mr,_,_⟩
 ·exact⟨(true,[]),⟨by simp,by simp⟩,by simp[hc],.one rfl (.cK 0)⟩
 rw[bO]at mr;obtain⟨r,hr1,hr2⟩:=HJ (p:=fun i(y:α×List Value)(_:DataW H×List MemPlace)=>w.cells? base (a.add (i*sz)) sz=some y.2/\ok y.1/\(e y.1).length=sz/\S4 w (e y.1) y.2) elems (fun i b hib=>by
  have hi:i<len:=Yt ▸ (qG hib).1
  have g:=mr i hi
  rw[hib,Option.bind_eq_some_iff]at g
  obtain⟨cs,g1,g2⟩:=g
  obtain⟨y,k1,k2,k3⟩:=h H enc w base spare held m cs b (by omega) g2
  exact⟨(y,cs),g1,k1,by rw[<- bO];exact k2,k3⟩)
 have hr3: ∀(i:Nat) y,r[i]? =some y->w.cells? base (a.add (i*sz)) sz=some y.2/\ok y.1/\(e y.1).length=sz/\S4 w (e y.1) y.2:=by
  intro i y hy;have hi:i<elems.length:=hr1 ▸ (qG hy).1;exact hr2 i y elems[i] hy (by simp[hi])
 have Tp:r.length=len:=by rw[hr1,Yt]
 have M8:r≠[]->a.block<w.heap.size/\a.spot=none:=by
  intro jv;obtain⟨y,r',rfl⟩:=List.exists_cons_of_ne_nil jv;obtain⟨g1,_⟩:=hr3 0 y rfl;obtain⟨c1,c2⟩:=Z2 g1;have:=c2 0 bU;rw[show a.add (0*sz)=a from by simp[Addr.add],show a.add 0=a from by simp[Addr.add]]at this;have xB:0<y.2.length:=by omega
  rw[kU xB]at this;exact cell_lt this
 refine⟨(false,r.map (·.1)),⟨by simp[Tp];omega,fun z hz=>?_⟩,by simp[hc], ?_⟩
 ·obtain⟨y,hy,rfl⟩:=List.mem_map.1 hz;obtain⟨i,hi⟩:=jz hy;exact(hr3 i y hi).2.1
 refine .one rfl ?_;simp only[slP,Bool.false_and,List.map_map];show RP _ _ (Ck false sz _) _;obtain⟨ab,ao,T9⟩:=a;have hlen:(r.map ((fun x=>e x) ∘ fun x=>x.1)).length=len:=by simp[Tp]
 rw[<- hlen];have hmap: ∀(i:Nat) l,(r.map ((fun x=>e x) ∘ fun x=>x.1))[i]? =some l-> ∃y,r[i]? =some y/\l=e y.1:=by
  intro i l hl;simp only[List.getElem?_map,yi,Function.comp]at hl;obtain⟨y,h1,h2⟩:=hl;exact⟨y,h1,h2.symm⟩
 have JH: ∀(i:Nat) y,r[i]? =some y-> ∀j,j<sz->w.cell? ⟨ab,ao+(i*sz+j),none⟩=y.2[j]? :=by
  intro i y hy j hj;obtain⟨g1,_⟩:=hr3 i y hy;obtain⟨c1,c2⟩:=Z2 g1;have Tr:=(M8 (fun h0=>by rw[h0]at hy;simp at hy)).2;simp only at Tr;subst Tr;rw[<- c2 j hj];congr 1;unfold Addr.add;by_cases h1:i*sz=0<;>by_cases h2:j=0<;>simp[h1,h2]<;>omega
 refine RP.mk ?_;refine .sl sz _ ab ao cap (fun k=>(r[k / sz]?.bind fun y=>y.2[k % sz]?).getD undef) (fun jv=>(M8 (fun h0=>jv (by rw[h0];rfl))).1) (by rw[List.length_map,Tp];exact hlc) (fun l hl=>?_) (fun i hi=>?_) (fun i l j p h1 h2=>?_) (fun i l j p h1 h2=>?_) T9
  (fun jv=>(M8 (fun h0=>jv (by rw[h0];rfl))).2)
 ·obtain⟨i,hi⟩:=jz hl;obtain⟨y,hy,rfl⟩:=hmap i l hi;exact(hr3 i y hy).2.2.1
 ·rw[hlen]at hi;have hq:i / sz<len:=Nat.div_lt_of_lt_mul (by rw[Nat.mul_comm];exact hi);have hm:=Nat.mod_lt i bU;have Ei:i / sz<r.length:=by omega
  have hy:r[i / sz]? =some r[i / sz]:=kU Ei;have g:=JH (i / sz) _ hy (i % sz) hm;rw[show i / sz*sz+i % sz=i from by rw[Nat.mul_comm];exact Nat.div_add_mod i sz]at g;rw[g,hy];simp only[z7];obtain⟨g1,_,g3,g4⟩:=hr3 _ _ hy;obtain⟨c1,_⟩:=Z2 g1;have:i % sz<(r[i / sz]).2.length:=by omega
  rw[kU this];rfl
 ·obtain⟨y,hy,rfl⟩:=hmap i l h1;exact(hr3 i y hy).2.2.2.2.1 p (qX h2)
 obtain⟨y,hy,rfl⟩:=hmap i l h1;obtain⟨g1,_,g3,g4,g5,g6⟩:=hr3 i y hy;have hj:j<sz:=g3 ▸ (qG h2).1;have e1:(i*sz+j) / sz=i:=by rw[Nat.mul_comm,Nat.mul_add_div bU,Nat.div_eq_of_lt hj,Nat.add_zero]
 have e2:(i*sz+j) % sz=j:=by rw[Nat.mul_comm,Nat.mul_add_mod,Nat.mod_eq_of_lt hj]
 have M3:j<y.2.length:=by rw[<- g4];omega
 simp only[e1,e2,hy,z7,kU M3,Option.getD_some];exact g6 j p _ h2 (kU M3)
def pG{α:Type}(P:Program)(fs:List Field)(e:α->List PV)(ok:α->Prop)(n off:Nat):Prop:=
 ∀(H:Type)(enc:TypeId×Value->H)(w:World)(base:Nat)(spare:Nat->Bool)(held:Bool)(fuel:Nat)(cs:List Value),fuel<=n->off<=cs.length->
  (∀ f∈fs,∃ x,DataW.trod enc P w base spare held fuel f.type ((cs.drop f.offset).take (P.cellsOf f.type))=some x)->
  ∃(a:α)(m:Nat),ok a/\(e a).length=m/\off+m<=cs.length/\S4 w (e a) ((cs.drop off).take m)
theorem pG.nil(n off:Nat):pG P [] (fun _:Unit=>[]) (fun _=>True) n off:=by
 intro H enc w base spare held fuel cs _ ho _;exact⟨(),0,trivial,rfl,by simpa using ho,by simpa using S4.nil⟩
theorem pG.cons{α β:Type}{f:Field}{fs:List Field}{e1:α->List PV}{ok1:α->Prop}{e2:β->List PV}{ok2:β->Prop}{n off c:Nat}(ho:f.offset=off)(hc:P.cellsOf f.type=c)
  (h1:jO P f.type e1 ok1 n) (h2:pG P fs e2 ok2 n (off+c)):pG P (f::fs) (fun x:α×β=>e1 x.1++e2 x.2) (fun x=>ok1 x.1/\ok2 x.2) n off:=by
 intro H enc w base spare held fuel cs hn cD AW;obtain⟨x,hx⟩:=AW f (by simp);rw[hc,ho]at hx;obtain⟨a,a1,a2,a3⟩:=h1 H enc w base spare held fuel _ x hn hx;rw[hc]at a2;have hl:=a3.1;rw[a2,List.length_take,List.length_drop]at hl;have pC:off+c<=cs.length:=by omega
 obtain⟨b,m,b1,b2,b3,b4⟩:=h2 H enc w base spare held fuel cs hn pC (fun f' Yu=>AW f' (by simp[Yu]));refine⟨(a,b),c+m,⟨a1,b1⟩,by simp[a2,b2],by omega, ?_⟩;have:=a3.append b4;rwa[show (cs.drop off).take c++(cs.drop (off+c)).take m=(cs.drop off).take (c+m)from by rw[List.take_add,List.drop_drop]]at this
theorem jO.struct{α:Type}{t:TypeId}{fs:Array Field}{e:α->List PV}{ok:α->Prop}{n c:Nat}(ht:P.underlying t=some (.struct fs))(hc:P.cellsOf t=c)(hlen: ∀a,(e a).length=c)
  (h:pG P fs.toList e ok n 0):jO P t e ok (n+1):=by
 intro H enc w base spare held fuel cs x hn hx;obtain⟨xs,m,rfl,_,hl,hxl,hf⟩:=DataW.trod_struct ht hx;obtain⟨a,k,h1,h2,h3,h4⟩:=h H enc w base spare held m cs (by omega) (Nat.zero_le _) (fun f hfm=>by
  obtain⟨i,hi⟩:=jz hfm
  have vq:fs[i]? =some f:=by rw[<- Array.getElem?_toList];exact hi
  have xB:i<xs.length:=by
   rw[hxl]
   exact(Array.getElem?_eq_some_iff.1 vq).1
  exact⟨xs[i],by rw[hf i f vq,kU xB]⟩)
 have:k=c:=by rw[<- h2];exact hlen a
 subst this;refine⟨a,h1,by rw[h2,hc], ?_⟩;rwa[List.drop_zero,List.take_of_length_le (by rw[hl,hc];exact xJ _)]at h4
end
end Go.Gm
namespace Go.Gm
open Go Go.ChangeShapes Go.Ng Go.RowKit
theorem lj{H:Type}{enc:TypeId×Value->H}{P:Program}(hl:laidOutB P=true){W W' :World}{sp' :Nat->Bool}:
  ∀{ts:List TypeId}{vs:List Value}{ds:List (DataW H)}{ps:List MemPlace},(∀ t∈ts,P.readableRec t=true/\t<P.types.size)->
  DataW.TrodAll enc P W 0 (fun _=>true) true ts vs ds ps->(∀ p∈ps,W.sameAt W' p)->(∀ p∈ps,sp' p.block=true)->DataW.TrodAll enc P W' 0 sp' true ts vs ds ps
 |[],vs,ds,ps,_,h,_,_=>by
  obtain⟨rfl,rfl,rfl⟩:=trodAll_nil h;exact trodAll_mk0
 |t::ts,vs,ds,ps,hr,h,hs,hp=>by
  obtain⟨v,dH,d,Ta,p,q,rfl,rfl,rfl,h1,h2⟩:=trodAll_cons h;have:=hr t (by simp);exact trodAll_cons_mk (WideElems.Trod_stays hl this.1 this.2 h1 (fun x hx=>hs x (by simp[hx])) (fun x hx=>hp x (by simp[hx])))
   (lj hl (fun t ht=>hr t (by simp[ht])) h2 (fun x hx=>hs x (by simp[hx])) (fun x hx=>hp x (by simp[hx])))
theorem X7{H:Type}{enc:TypeId×Value->H}{P:Program}{w:World}{base:Nat}{spare:Nat->Bool}{held:Bool}:
  ∀{ts:List TypeId}{vs:List Value}{ds:List (DataW H)}{ps:List MemPlace},DataW.TrodAll enc P w base spare held ts vs ds ps->ts.length=vs.length/\ds.length=ts.length
 |[],vs,ds,ps,h=>by
  obtain⟨rfl,rfl,rfl⟩:=trodAll_nil h;exact⟨rfl,rfl⟩
 |t::ts,vs,ds,ps,h=>by
  obtain⟨v,dH,d,Ta,p,q,rfl,rfl,rfl,h1,h2⟩:=trodAll_cons h;obtain⟨a,b⟩:=X7 h2;exact⟨by simp[a],by simp[b]⟩
def cy{α:Type}(P:Program)(t:TypeId)(e:α->PV)(ok:α->Prop):Prop:=
 ∀(H:Type)(enc:TypeId×Value->H)(w:World)(base iu:Nat)(spare:Nat->Bool)(held:Bool)(v:Value)(d:DataW H)(ps:List MemPlace),Value.okWide P w .any iu t v->
  DataW.Trod enc P w base spare held t v d ps-> ∃a:α,ok a/\RP w (Vn w) (e a) v
theorem cy.struct{α:Type}{P:Program}{t:TypeId}{fs:Array Field}{e:α->List PV}{ok:α->Prop}(ht:P.underlying t=some (.struct fs))(h: ∀n,jO P t e ok n):cy P t (fun a=> .agg (e a)) ok:=by
 intro H enc w base iu spare held v d ps sH ⟨fuel,hv⟩;simp only[Value.okWide,ht]at sH;obtain⟨cs,rfl,_,_⟩:=sH;obtain⟨a,h1,h2,h3⟩:=h fuel H enc w base spare held fuel _ _ (xJ _) hv;refine⟨a,h1, ?_⟩;obtain⟨l⟩:=cs;exact .agg _ _ h3.1 h3.2.1 h3.2.2
def oneD:TypeDesc->Bool
 | .bool| .int _| .string| .slice _=>true
 |_=>false
theorem cy.one{α:Type}{P:Program}{t:TypeId}{td:TypeDesc}{e:α->PV}{ok:α->Prop}(ht:P.underlying t=some td)(hd:oneD td=true)(h: ∀n,jO P t (fun a=>[e a]) ok n):cy P t e ok:=by
 intro H enc w base iu spare held v d ps sH ⟨fuel,hv⟩;obtain⟨a,h1,h2,h3⟩:=h fuel H enc w base spare held fuel _ _ (xJ _) hv;refine⟨a,h1, ?_⟩;have hc:v.cells= #[v]:=by
  simp only[Value.okWide,ht]at sH;cases td<;>simp[oneD]at hd<;>simp only[Cell.okWide,ht]at sH<;>cases v<;>simp_all [Cell.ok,Value.cells]
 exact h3.2.2 0 _ v rfl (by rw[hc];rfl)
def wS{β:Type}(P:Program)(ts:List TypeId)(e:β->List PV)(ok:β->Prop):Prop:=
 ∀(H:Type)(enc:TypeId×Value->H)(w:World)(base iu:Nat)(spare:Nat->Bool)(held:Bool)(vs:List Value)(ds:List (DataW H))(ps:List MemPlace),
  (∀(j:Nat) t v,ts[j]? =some t->vs[j]? =some v->Value.okWide P w .any iu t v)->DataW.TrodAll enc P w base spare held ts vs ds ps->
  ∃b:β,ok b/\(e b).length=vs.length/\ ∀(i:Nat) p v,(e b)[i]? =some p->vs[i]? =some v->RP w (Vn w) p v
theorem wS.nil{P:Program}:wS P [] (fun _:Unit=>[]) (fun _=>True):=by
 intro H enc w base iu spare held vs ds ps _ h;obtain⟨rfl,rfl,rfl⟩:=trodAll_nil h;exact⟨(),trivial,rfl,by simp⟩
theorem wS.cons{α β:Type}{P:Program}{t:TypeId}{ts:List TypeId}{e1:α->PV}{ok1:α->Prop}{e2:β->List PV}{ok2:β->Prop}(h1:cy P t e1 ok1)(h2:wS P ts e2 ok2):
  wS P (t::ts) (fun x:α×β=>e1 x.1::e2 x.2) (fun x=>ok1 x.1/\ok2 x.2):=by
 intro H enc w base iu spare held vs ds ps sH h;obtain⟨v,dH,d,Ta,p,q,rfl,rfl,rfl,r1,r2⟩:=trodAll_cons h;obtain⟨a,a1,a2⟩:=h1 H enc w base iu spare held v d p (sH 0 t v rfl rfl) r1;obtain⟨b,b1,b2,b3⟩:=h2 H enc w base iu spare held dH Ta q (fun j t v x y=>sH (j+1) t v (by simpa using x) (by simpa using y)) r2;refine⟨(a,b),⟨a1,b1⟩,by simp[b2],fun i x y hx hy=>?_⟩;cases i with
 |zero=>simp at hx hy;subst hx;subst hy;exact a2
 |succ i=>exact b3 i x y (by simpa using hx) (by simpa using hy)
theorem wS.weaken{β:Type}{P:Program}{ts:List TypeId}{e:β->List PV}{ok:β->Prop}(h:wS P ts e ok):wS P ts e fun _=>True:=by
 intro H enc w base iu spare held vs ds ps sH hh;obtain⟨b,_,h2,h3⟩:=h H enc w base iu spare held vs ds ps sH hh;exact⟨b,trivial,h2,h3⟩
theorem YB[zN]{P:Program}{G:GP}{S:nJ}(hm:P.follows .mixedOrders=true)(hG:vL P G)(hF:S1 P G)(hS:o9 P S)(hl:laidOutB P=true)
  {f:FuncId} {fn:Func} {tb:TypeId} (hres:fn.resultTypes= #[tb]) (htb:P.underlying tb=some .bool) {s:ChangeSpec} (hvars:s.vars=[])
  (hread: ∀t∈fn.params.toList,P.readableRec t=true/\t<P.types.size)
  (Eo: ∀(H:Type)(ds:List (DataW H)),ds.length=fn.params.toList.length->s.fn H ds={ results:=[.lit (.bool true)],args:=ds })
  {β:Type} {e:β->List PV} {ok:β->Prop} (Ti:wS P fn.params.toList e ok)
  (sN: ∀b,ok b-> ∃H',(omega G S).call f ((e b).map .pv) []=some (.pv (.bool true),H'))
  {H:Type} {enc:TypeId×Value->H} {W:World} {base:Nat} {args:Array Value} {ds gs:List (DataW H)} {before:List MemPlace}
  (Xp: ∀(j:Nat) t v,fn.params[j]? =some t->args[j]? =some v->Value.okWide P W .any base t v)
  (hW:DataW.Whole enc P fn.params.toList s.vars false W args.toList ds gs before) (hgl:zN.ok W/\ ∀b,zN.on b->b<W.heap.size):
  Calls P f args W fun e W' => ∃v,e= .returned v/\s.post enc P fn false true false false W args v W' :=by
 have hW' :=hW;obtain⟨p,q,hA,hV,rfl,hfz,DP⟩:=hW;obtain⟨vs⟩:=args;rw[hvars]at hV;obtain⟨rfl,rfl⟩:=trodVars_none hV;obtain⟨hl1,M4⟩:=X7 hA;obtain⟨b,b1,b2,b3⟩:=Ti H enc W 0 base _ _ vs ds p (fun j t v h1 h2=>Xp j t v (by rw[<- Array.getElem?_toList];exact h1) (by rw[<- Array.getElem?_toList];exact h2)) hA;obtain⟨H',hc⟩:=sN b b1;have sH:=In hm hG hF hS hc W (fun _=>⟨0,0,[]⟩) (Vn W) vs (old_inv W _ hgl) (by simpa using b2) (fun i x v h1 h2=>by
  simp only[List.getElem?_map,yi]at h1
  obtain⟨y,hy,rfl⟩:=h1
  exact .pv _ _ (b3 i y v hy h2))
 refine sH.mono fun en W'⟨v,ι',jA,h1,h2,h3,h4⟩=>?_;subst h1;have hv:v= .bool true:=by
  have:=h4.uB;cases this;rfl
 subst hv;have E4: ∀k,k<W.heap.size->W'.heap[k]? =W.heap[k]? :=fun k hk=>h3.ka k hk fun β x hx=>by cases hx
 have xB: ∀x∈p,x.block<W.heap.size:=fun x hx=>hW'.lt x (by simp[hx]);have ZO: ∀x∈p,W.sameAt W' x:=fun x hx=>by
  cases x with
  |cell b o=>exact World.cell?_of_block (w:=W) (E4 b (xB _ hx))
  |map b=>exact E4 b (xB _ hx)
 refine⟨_,rfl,ds,[],p++[],[],p,[],hW', ?_, ?_, ?_, ?_,fun h=>by cases h⟩
 ·rw[List.append_nil,Eo H ds M4,hres];exact trodAll_cons_mk (shut_bool htb true) trodAll_mk0
 ·rw[List.append_nil,Eo H ds M4];exact lj hl hread hA ZO (fun x hx=>by simpa using xB x hx)
 ·rw[hvars];rw[List.append_nil,Eo H ds M4];rfl
 refine⟨h3.io.1,h3.io.2,fun i hi=>?_⟩;rw[E4 i hi];split<;>simp_all
end Go.Gm
namespace Go.Gm
open Go
structure FX (b:Bool):Prop where
 h:b=true
inductive Fr where
 |code (c:Code)
 |upto (id:Nat)
 |mh (l:List S0)
def cont(G:GP)(O:zS)(f:FuncId):List Fr->Ex×St->Option (Ex×St)
 |[],x=>some x
 | .upto id::r,(.exit i,s)=>if i=id then cont G O f r (.normal,s)else cont G O f r (.exit i,s)
 | .upto _::r,(.normal,s)=>cont G O f r (.normal,s)
 | .upto _::r,(.ret,s)=>cont G O f r (.ret,s)
 | .mh l::r,(.normal,s)=>cont G O f r (.normal,Gm.mh l s)
 | .mh _::r,(.exit i,s)=>cont G O f r (.exit i,s)
 | .mh _::r,(.ret,s)=>cont G O f r (.ret,s)
 | .code c::r,(.normal,s)=>match exec G O f c s with
  |some x=>cont G O f r x
  |none=>none
 | .code _::r,(.exit i,s)=>cont G O f r (.exit i,s)
 | .code _::r,(.ret,s)=>cont G O f r (.ret,s)
def K7(G:GP)(O:zS)(f:FuncId)(all l:List Oper)(s:St)(r:List Fr):Option (Ex×St):=
 match Z0 G O all l s with
 |some s' =>cont G O f r (.normal,s')
 |none=>none
def Xu(G:GP)(O:zS)(f:FuncId)(all:List Oper)(tm:Bool)(i:Nat)(l:List Oper)(s:St)(log:List (Nat×List Nat×List Nat))(r:List Fr):Option (Ex×St):=
 match cB G O all tm i l s log with
 |some s' =>cont G O f r (.normal,s')
 |none=>none
def effX(G:GP)(O:zS)(f:FuncId)(all l:List Oper)(d:Option Tmp)(E:vF)(H:qn)(r:List Fr):Option bY->Option (Ex×St)
 |some (v,ws,nx)=>K7 G O f all l ⟨cP d v E,qS ws H,nx⟩ r
 |none=>none
def effD(G:GP)(O:zS)(f:FuncId)(all:List Oper)(tm:Bool)(i:Nat)(l:List Oper)(d:Option Tmp)(E:vF)(H:qn)(rd:List Nat)(log:List (Nat×List Nat×List Nat))(r:List Fr):Option bY->Option (Ex×St)
 |some (v,ws,nx)=>Xu G O f all tm i l ⟨cP d v E,qS (fM tm rd H ws) H,nx⟩ ((i-1,rd,(fM tm rd H ws).map (·.1))::log) r
 |none=>none
section
variable {G:GP} {O:zS} {f:FuncId}
theorem X_one(c:Code)(s:St):exec G O f c s=cont G O f [.code c] (.normal,s):=by
 simp only[cont];split<;>simp_all
theorem X_nil(x:Ex×St):cont G O f [] x=some x:=rfl
theorem X_uptoN(id:Nat)(r:List Fr)(s:St):cont G O f (.upto id::r) (.normal,s)=cont G O f r (.normal,s):=rfl
theorem X_uptoR(id:Nat)(r:List Fr)(s:St):cont G O f (.upto id::r) (.ret,s)=cont G O f r (.ret,s):=rfl
theorem X_uptoE(id i:Nat)(r:List Fr)(s:St):cont G O f (.upto id::r) (.exit i,s)=if i=id then cont G O f r (.normal,s)else cont G O f r (.exit i,s):=rfl
theorem X_codeR(c:Code)(r:List Fr)(s:St):cont G O f (.code c::r) (.ret,s)=cont G O f r (.ret,s):=rfl
theorem X_codeE(c:Code)(i:Nat)(r:List Fr)(s:St):cont G O f (.code c::r) (.exit i,s)=cont G O f r (.exit i,s):=rfl
theorem X_skip(r:List Fr)(s:St):cont G O f (.code .skip::r) (.normal,s)=cont G O f r (.normal,s):=rfl
theorem X_ret(r:List Fr)(s:St):cont G O f (.code .ret::r) (.normal,s)=cont G O f r (.ret,s):=rfl
theorem X_exit(i:Nat)(r:List Fr)(s:St):cont G O f (.code (.exit i)::r) (.normal,s)=cont G O f r (.exit i,s):=rfl
theorem X_seq(a b:Code)(r:List Fr)(s:St):cont G O f (.code (.seq a b)::r) (.normal,s)=cont G O f (.code a:: .code b::r) (.normal,s):=by
 simp only[cont,exec];cases exec G O f a s with
 |none=>rfl
 |some x=>
  obtain⟨e,s'⟩:=x;cases e<;>rfl
theorem X_cond(c:Operand)(t e:Code)(r:List Fr)(s:St):cont G O f (.code (.cond c t e)::r) (.normal,s)=match ev s.env c with
  | .pv (.bool b)=>if b=true then cont G O f (.code t::r) (.normal,s)else cont G O f (.code e::r) (.normal,s)
  |_=>none:=by
 simp only[cont,exec];cases ev s.env c with
 |pv p=>cases p with
  |bool b=>cases b<;>rfl
  |_=>rfl
 |_=>rfl
def EG:Code->Bool
 | .loop _=>true
 |_=>false
theorem aZ(id:Nat)(c:Code)(r:List Fr)(s:St)(hl:EG c=false):cont G O f (.code (.block id c)::r) (.normal,s)=cont G O f (.code c:: .upto id::r) (.normal,s):=by
 have hex:exec G O f (.block id c) s=match exec G O f c s with
   |some (.exit i,s')=>if i=id then some (.normal,s')else some (.exit i,s')
   |some (.normal,s')=>some (.normal,s')
   |some (.ret,s')=>some (.ret,s')
   |none=>none:=by
  cases c<;>first|rfl|(simp [EG]at hl)
 simp only[cont,hex];cases exec G O f c s with
 |none=>rfl
 |some x=>
  obtain⟨e,s'⟩:=x;cases e with
  |exit i=>
   by_cases h:i=id<;>simp[cont,h]
  |_=>rfl
theorem A4(id:Nat)(a b:Code)(r:List Fr)(s:St):cont G O f (.code (.block id (.seq a b))::r) (.normal,s)=cont G O f (.code (.seq a b):: .upto id::r) (.normal,s):=aZ _ _ _ _ rfl
theorem A0(id i:Nat)(a:Code)(r:List Fr)(s:St):cont G O f (.code (.block id (.block i a))::r) (.normal,s)=cont G O f (.code (.block i a):: .upto id::r) (.normal,s):=aZ _ _ _ _ rfl
theorem A1(id:Nat)(c:Operand)(a b:Code)(r:List Fr)(s:St):cont G O f (.code (.block id (.cond c a b))::r) (.normal,s)=cont G O f (.code (.cond c a b):: .upto id::r) (.normal,s):=aZ _ _ _ _ rfl
theorem A3(id i:Nat)(a:Array Oper)(d:Bool)(r:List Fr)(s:St):cont G O f (.code (.block id (.region i a d))::r) (.normal,s)=cont G O f (.code (.region i a d):: .upto id::r) (.normal,s):=aZ _ _ _ _ rfl
theorem A6(id i:Nat)(r:List Fr)(s:St):cont G O f (.code (.block id (.exit i))::r) (.normal,s)=cont G O f (.code (.exit i):: .upto id::r) (.normal,s):=aZ _ _ _ _ rfl
theorem A2(id:Nat)(r:List Fr)(s:St):cont G O f (.code (.block id .skip)::r) (.normal,s)=cont G O f r (.normal,s):=by rw[aZ _ _ _ _ rfl];rfl
theorem A5(id:Nat)(r:List Fr)(s:St):cont G O f (.code (.block id .ret)::r) (.normal,s)=cont G O f r (.ret,s):=by rw[aZ _ _ _ _ rfl];rfl
def ET(G:GP)(O:zS)(f:FuncId)(id:Nat)(r:List Fr):Option St->Option (Ex×St)
 |some s=>match O.loop f id s with
  |some x=>cont G O f r x
  |none=>none
 |none=>none
theorem X_loop(id:Nat)(c:Code)(r:List Fr)(s:St):cont G O f (.code (.block id (.loop c))::r) (.normal,s)=ET G O f id r (fA (G.spec f id) s):=by
 simp only[cont,exec,ET];cases fA (G.spec f id) s with
 |none=>rfl
 |some s1=>rfl
theorem Mn(id:Nat)(r:List Fr)(s:St):ET G O f id r (some s)=match O.loop f id s with
  |some x=>cont G O f r x
  |none=>none:=rfl
theorem AF(l o p q r s):fA ⟨l,o,p,q,r,0⟩ s=some (enter ⟨l,o,p,q,r,0⟩ s):=rfl
theorem again_0(l o p q r n s):again ⟨l,o,p,q,r,0⟩ n s=narrow l n s:=rfl
theorem leave_0(l o p q r n s):leave ⟨l,o,p,q,r,0⟩ n s=some (a8 o n s):=rfl
def QH(n:Nat):Option St->Option St
 |some s1=>if s1.nx=n then some s1 else none
 |none=>none
theorem Ps(n:Nat)(E H k):QH n (some ⟨E,H,k⟩)=if k=n then some ⟨E,H,k⟩else none:=rfl
theorem AG(l o p q r s):fA ⟨l,o,p,q,r,1⟩ s=QH (s.nx+1) (canon l s.nx (enter ⟨l,o,p,q,r,1⟩ s)):=rfl
theorem AH(l o p q r s):fA ⟨l,o,p,q,r,2⟩ s=QH (s.nx+2) (canon l s.nx (enter ⟨l,o,p,q,r,2⟩ s)):=rfl
theorem AJ(l o p q r s):fA ⟨l,o,p,q,r,3⟩ s=QH (s.nx+3) (canon l s.nx (enter ⟨l,o,p,q,r,3⟩ s)):=rfl
theorem AK(l o p q r s):fA ⟨l,o,p,q,r,4⟩ s=QH (s.nx+4) (canon l s.nx (enter ⟨l,o,p,q,r,4⟩ s)):=rfl
theorem again_1(l o p q r n s):again ⟨l,o,p,q,r,1⟩ n s=QH n (canon l (n-1) (zL q (jQ p s))):=rfl
theorem again_2(l o p q r n s):again ⟨l,o,p,q,r,2⟩ n s=QH n (canon l (n-2) (zL q (jQ p s))):=rfl
theorem again_3(l o p q r n s):again ⟨l,o,p,q,r,3⟩ n s=QH n (canon l (n-3) (zL q (jQ p s))):=rfl
theorem again_4(l o p q r n s):again ⟨l,o,p,q,r,4⟩ n s=QH n (canon l (n-4) (zL q (jQ p s))):=rfl
theorem leave_1(l o p q r n s):leave ⟨l,o,p,q,r,1⟩ n s=canon o (n-1) s:=rfl
theorem leave_2(l o p q r n s):leave ⟨l,o,p,q,r,2⟩ n s=canon o (n-2) s:=rfl
theorem leave_3(l o p q r n s):leave ⟨l,o,p,q,r,3⟩ n s=canon o (n-3) s:=rfl
theorem leave_4(l o p q r n s):leave ⟨l,o,p,q,r,4⟩ n s=canon o (n-4) s:=rfl
def keptL(l:List Nat)(n:Nat)(s:St):Option St:=if n<=s.nx then some { s with env:=restrict s.env l }else none
theorem keptL_S(l:List Nat)(n E H k):keptL l n ⟨E,H,k⟩=if n<=k then some ⟨restrict E l,H,k⟩else none:=rfl
theorem Ns(l o p q r n s):again ⟨l,o,p,q,r,1000⟩ n s=keptL l n (zL q (jQ p s)):=by unfold again;rw[if_pos rfl];rfl
theorem X_cmds0(r:List Fr)(s:St):cont G O f (.mh []::r) (.normal,s)=cont G O f r (.normal,s):=rfl
theorem X_cmdsC(c:S0)(l:List S0)(r:List Fr)(s:St):cont G O f (.mh (c::l)::r) (.normal,s)=cont G O f (.mh l::r) (.normal,W4 c s):=rfl
theorem A7(id:Nat)(ops:Array Oper)(r:List Fr)(s:St):cont G O f (.code (.region id ops false)::r) (.normal,s)=K7 G O f ops.toList ops.toList (mh (G.cmd f (2*id)) s) (.mh (G.cmd f (2*id+1))::r):=by
 simp only[cont,exec,K7];cases Z0 G O ops.toList ops.toList (mh (G.cmd f (2*id)) s)<;>rfl
theorem S5(id:Nat)(ops:Array Oper)(r:List Fr)(s:St):cont G O f (.code (.region id ops true)::r) (.normal,s)=Xu G O f ops.toList (o4 (G.pre f id)) 0 ops.toList (pres G f id (mh (G.cmd f (2*id)) s)) [] (.mh (G.cmd f (2*id+1))::r):=by
 simp only[cont,exec,Xu];cases cB G O ops.toList (o4 (G.pre f id)) 0 ops.toList (pres G f id (mh (G.cmd f (2*id)) s)) []<;>rfl
theorem pres_S(f:FuncId)(id:Nat)(E:vF)(H:qn)(nx:Nat):pres G f id ⟨E,H,nx⟩=ud (sJ E H (G.pre f id)) ⟨E,H,nx⟩:=rfl
theorem Y_nil(all:List Oper)(s:St)(r:List Fr):K7 G O f all [] s r=cont G O f r (.normal,s):=rfl
theorem Y_op(all:List Oper)(d:Option Tmp)(o:Op)(ty:TypeId)(ps:String)(af:Array Edge)(l:List Oper)(E:vF)(H:qn)(nx:Nat)(r:List Fr):
  K7 G O f all (⟨d,o,ty,ps,af,none⟩::l) ⟨E,H,nx⟩ r=match ud (GC G o E) ⟨E,H,nx⟩with
   |⟨E',H',n'⟩=>effX G O f all l d E' H' r (ni G O o E' H' n'):=by
 simp only[K7,Z0,vM,QK];generalize ud (GC G o E) ⟨E,H,nx⟩=s;obtain⟨E',H',n'⟩:=s;simp only;cases ni G O o E' H' n' with
 |none=>rfl
 |some e=>obtain⟨v,ws,k⟩:=e;rfl
theorem Y_guard(all:List Oper)(d:Option Tmp)(o:Op)(ty:TypeId)(ps:String)(af:Array Edge)(g:Nat×Bool)(l:List Oper)(E:vF)(H:qn)(nx:Nat)(r:List Fr):
  K7 G O f all (⟨d,o,ty,ps,af,some g⟩::l) ⟨E,H,nx⟩ r=match vM all ⟨d,o,ty,ps,af,some g⟩ E with
   |some b=>if b=true then K7 G O f all (⟨d,o,ty,ps,af,none⟩::l) ⟨E,H,nx⟩ r else K7 G O f all l ⟨cP d (.xS []) E,H,nx⟩ r
   |none=>none:=by
 simp only[K7,Z0];cases vM all ⟨d,o,ty,ps,af,some g⟩ E with
 |none=>rfl
 |some b=>cases b<;>simp[vM,QK]
theorem NW(all:List Oper)(d:Option Tmp)(o:Op)(ty:TypeId)(ps:String)(af:Array Edge)(j:Nat)(w:Bool)(E:vF):
  vM all ⟨d,o,ty,ps,af,some (j,w)⟩ E=match all[j]? with
   |some oj=>match oj.dst with
    |some d=>match E.get d with
     | .pv (.bool b)=>some (b==w)
     | .xS []=>some false
     |_=>none
    |none=>some false
   |none=>some false:=rfl
theorem Z_nil(all:List Oper)(tm:Bool)(i:Nat)(s:St)(log:List (Nat×List Nat×List Nat))(r:List Fr)(h:FX (nk (wb [] all) log)):Xu G O f all tm i [] s log r=cont G O f r (.normal,s):=by
 simp only[Xu,cB,h.h,if_true]
theorem Z_op(all:List Oper)(tm:Bool)(i:Nat)(d:Option Tmp)(o:Op)(ty:TypeId)(ps:String)(af:Array Edge)(l:List Oper)(E:vF)(H:qn)(nx:Nat)(log:List (Nat×List Nat×List Nat))(r:List Fr):
  Xu G O f all tm i (⟨d,o,ty,ps,af,none⟩::l) ⟨E,H,nx⟩ log r=effD G O f all tm (i+1) l d E H (mG o E H) log r (ni G O o E H nx):=by
 simp only[Xu,cB,vM];cases ni G O o E H nx with
 |none=>rfl
 |some e=>obtain⟨v,ws,k⟩:=e;rfl
theorem Z_guard(all:List Oper)(tm:Bool)(i:Nat)(d:Option Tmp)(o:Op)(ty:TypeId)(ps:String)(af:Array Edge)(g:Nat×Bool)(l:List Oper)(E:vF)(H:qn)(nx:Nat)(log:List (Nat×List Nat×List Nat))(r:List Fr):
  Xu G O f all tm i (⟨d,o,ty,ps,af,some g⟩::l) ⟨E,H,nx⟩ log r=match vM all ⟨d,o,ty,ps,af,some g⟩ E with
   |some b=>if b=true then Xu G O f all tm i (⟨d,o,ty,ps,af,none⟩::l) ⟨E,H,nx⟩ log r else Xu G O f all tm (i+1) l ⟨cP d (.xS []) E,H,nx⟩ log r
   |none=>none:=by
 simp only[Xu,cB];cases vM all ⟨d,o,ty,ps,af,some g⟩ E with
 |none=>rfl
 |some b=>cases b<;>simp[vM,QK]
theorem Sz(all l:List Oper)(d:Option Tmp)(E:vF)(H:qn)(r:List Fr)(v:AV)(ws:List (Nat×qD))(nx:Nat):
  effX G O f all l d E H r (some (v,ws,nx))=K7 G O f all l ⟨cP d v E,qS ws H,nx⟩ r:=rfl
theorem Sy(all l:List Oper)(d:Option Tmp)(E:vF)(H:qn)(r:List Fr):effX G O f all l d E H r none=none:=rfl
theorem Sx(all:List Oper)(i:Nat)(l:List Oper)(d:Option Tmp)(E:vF)(H:qn)(rd:List Nat)(log:List (Nat×List Nat×List Nat))(r:List Fr)(v:AV)(ws:List (Nat×qD))(nx:Nat):
  effD G O f all false (i+1) l d E H rd log r (some (v,ws,nx))=Xu G O f all false (i+1) l ⟨cP d v E,qS ws H,nx⟩ ((i,rd,ws.map (·.1))::log) r:=rfl
theorem trimOff(l:List Nat)(h:o4 l=false):o4 l=false:=h
theorem bool_tt:(true==true)=true:=rfl
theorem bool_ff:(false==false)=true:=rfl
theorem bool_ft:(false==true)=false:=rfl
theorem bool_tf:(true==false)=false:=rfl
def dz(G:GP)(O:zS)(f:FuncId)(id n:Nat):Option (Ex×St)->Option (Ex×St)
 |some (.normal,s')=>match again (G.spec f id) n (ud (sJ s'.env s'.heap (G.spec f id).freeze) s')with
  |some Oz=>O.loop f id Oz
  |none=>none
 |some (.exit i,s')=>if i=id then left .normal (leave (G.spec f id) n s')else left (.exit i) (leave (G.spec f id) n s')
 |some (.ret,s')=>left .ret (leave (G.spec f id) n s')
 |none=>none
theorem Pj(id n:Nat)(s:St):dz G O f id n (some (.normal,s))=match again (G.spec f id) n (ud (sJ s.env s.heap (G.spec f id).freeze) s)with|some Oz=>O.loop f id Oz|none=>none:=rfl
theorem Ph(id n i:Nat)(s:St):dz G O f id n (some (.exit i,s))=if i=id then left .normal (leave (G.spec f id) n s)else left (.exit i) (leave (G.spec f id) n s):=rfl
theorem Pk(id n:Nat)(s:St):dz G O f id n (some (.ret,s))=left .ret (leave (G.spec f id) n s):=rfl
theorem left_S(ex:Ex)(s:St):left ex (some s)=some (ex,s):=rfl
theorem L_step{fi:FI}(Z6:G.fn f=some fi){id:Nat}{c:Code}(hc:zv fi.body id=some c)(s:St):
  nu G O f id s=dz G O f id s.nx (cont G O f [.code c] (.normal,s)):=by
 unfold nu;rw[Z6];simp only[hc,X_one];cases cont G O f [.code c] (.normal,s)with
 |none=>rfl
 |some x=>obtain⟨e,s'⟩:=x;cases e<;>rfl
def fnE(G:GP)(f:FuncId)(m:Nat)(res:List ResultVar)(s:St):Option (AV×qn):=
 match dy G s res with
 |some vs=>finish m (G.tB f) (o5 vs) s
 |none=>none
def WR(G:GP)(f:FuncId)(m:Nat)(res:List ResultVar):Option (Ex×St)->Option (AV×qn)
 |some (.exit _,_)=>none
 |some (_,s)=>fnE G f m res (mh (G.cmd f 999999) s)
 |none=>none
theorem fnEnd_N(m:Nat)(res:List ResultVar)(s:St):WR G f m res (some (.normal,s))=fnE G f m res (mh (G.cmd f 999999) s):=rfl
theorem fnEnd_R(m:Nat)(res:List ResultVar)(s:St):WR G f m res (some (.ret,s))=fnE G f m res (mh (G.cmd f 999999) s):=rfl
theorem fnE_S(m:Nat)(res:List ResultVar)(E:vF)(H:qn)(nx:Nat):fnE G f m res ⟨E,H,nx⟩=match dy G ⟨E,H,nx⟩ res with|some vs=>finish m (G.tB f) (o5 vs) ⟨E,H,nx⟩|none=>none:=rfl
theorem F_step{fi:FI}(Z6:G.fn f=some fi){H:qn}(hk:yV 0 H=true)(args:List AV):
  iW G O f args H=WR G f H.length fi.results (cont G O f [.code fi.body] (.normal,⟨pK 0 args,H,H.length⟩)):=by
 unfold iW;rw[Z6];simp only[hk,if_true,X_one];cases cont G O f [.code fi.body] (.normal,⟨pK 0 args,H,H.length⟩)with
 |none=>rfl
 |some x=>obtain⟨e,s'⟩:=x;cases e<;>rfl
theorem TP{S:nJ}{nt:Nat}{ob:Option Code}{ra:Array ResultVar}(hs:S.call f=none)(Z6:G.fn f=some ⟨nt,ra.toList,ob.get!⟩){c:Code}(hc:ob=some c){rs:List ResultVar}(hr:ra=⟨rs⟩){H:qn}
  (hk:yV 0 H=true) {args:List AV} {r:Option (AV×qn)}
  (h:WR G f H.length rs (cont G (omega G S) f [.code c] (.normal,⟨pK 0 args,H,H.length⟩))=r):(omega G S).call f args H=r:=by
 subst hc hr;rw[MD hs,F_step Z6 hk];exact h
theorem TQ{S:nJ}{fi:FI}(Z6:G.fn f=some fi){id:Nat}{c:Code}(hc:zv fi.body id=some c){s:St}{r:Option (Ex×St)}
  (h:dz G (omega G S) f id s.nx (cont G (omega G S) f [.code c] (.normal,s))=r):(omega G S).loop f id s=r:=by
 rw[ME,L_step Z6 hc];exact h
end
end Go.Gm
namespace Go.Gm
open Go Go.RowKit Go.Maps
set_option maxRecDepth 10000
def Gf:List (PV×PV×Nat)->Option (List Int)
 |[]=>some []
 |(.int .i64 k,_,_)::r=>match Gf r with
  |some l=>some (k::l)
  |none=>none
 |_=>none
def Mc(x:Int):List Int->List Int
 |[]=>[x]
 |y::r=>if x<=y then x::y::r else y::Mc x r
def md:List Int->List Int
 |[]=>[]
 |x::r=>Mc x (md r)
theorem Ze(x:Int): ∀l,(Mc x l).Perm (x::l)
 |[]=> .refl _
 |y::r=>by
  simp only[Mc];split
  ·exact .refl _
  exact((Ze x r).cons y).trans (.swap x y r)
theorem lM: ∀l,(md l).Perm l
 |[]=> .refl _
 |x::r=>(Ze x _).trans ((lM r).cons x)
theorem Tw(x:Int): ∀l,l.Pairwise (· <= ·)->(Mc x l).Pairwise (· <= ·)
 |[],_=>by simp[Mc]
 |y::r,h=>by
  simp only[Mc];rw[List.pairwise_cons]at h;split
  ·rename_i hxy;refine List.pairwise_cons.2 ⟨fun z hz=>?_,List.pairwise_cons.2 h⟩;rcases List.mem_cons.1 hz with rfl|hz
   ·exact hxy
   exact Int.le_trans hxy (h.1 z hz)
  rename_i hxy;refine List.pairwise_cons.2 ⟨fun z hz=>?_,Tw x r h.2⟩;rcases List.mem_cons.1 ((Ze x r).mem_iff.1 hz)with rfl|hz
  ·omega
  exact h.1 z hz
theorem Bo: ∀l,(md l).Pairwise (· <= ·)
 |[]=> .nil
 |x::r=>Tw x _ (Bo r)
theorem Bp(l l' :List Int)(h:l'.Perm l):l'.mergeSort (fun x y=>decide (x<=y))=md l:=by
 have tr: ∀a b c:Int,decide (a<=b)=true->decide (b<=c)=true->decide (a<=c)=true:=fun a b c h1 h2=>by simp only[decide_eq_true_eq]at *; exact Int.le_trans h1 h2
 have to: ∀a b:Int,(decide (a<=b) || decide (b<=a))=true:=fun a b=>by simp only[Bool.or_eq_true,decide_eq_true_eq];exact Int.le_total a b
 refine List.Perm.eq_of_pairwise (le:=fun a b=>a<=b) (fun a b _ _ h1 h2=>Int.le_antisymm h1 h2) ?_ (Bo l) (((List.mergeSort_perm l' _).trans h).trans (lM l).symm);have:=List.pairwise_mergeSort tr to l';exact this.imp fun h=>by simpa using h
def Tz(ks:List Int)(st:List Nat)(zI:Nat):Bool:=
 decide ks.Nodup&&ks.all (fun k=>decide (-9223372036854775808<=k)&&decide (k<=9223372036854775807))&&decide st.Nodup&&st.all (fun b=>decide (b<zI))&&decide (ks.length<=1099511627776)
def tu:List (PV×PV×Nat)->List Nat
 |[]=>[]
 |e::r=>e.2.2::tu r
def Ks(fk:FuncId)(args:List AV)(H:qn):Option (AV×qn):=
 match args,H with
 |[.lr g [] [.ptr 0 0]],[(0,.box [.map 1]),(1,.map es zI)]=>match Gf es with
  |some ks=>if g=fk/\Tz ks (tu es) zI=true then some (.row 2 (md ks).length 0 (md ks).length,[(0,.box [.map 1]),(1,.map es zI),(2,.row (md ks).isEmpty (zC 1 (md ks)) ((md ks).map fun k=>[.int .i64 k]))])else none
  |none=>none
 |_,_=>none
theorem V5: ∀{es:List (PV×PV×Nat)}{ks:List Int},Gf es=some ks->ks.length=es.length/\ ∀(i:Nat)(k x:PV)(b:Nat),es[i]? =some (k,x,b)-> ∃n,ks[i]? =some n/\k= .int .i64 n
 |[],ks,h=>by cases h;exact⟨rfl,by simp⟩
 |(p,v,b)::r,ks,h=>by
  cases p with
  |int kd k=>
   cases kd<;>simp only[Gf]at h<;>try cases h
   split at h
   ·rename_i l hl;cases h;obtain⟨h1,h2⟩:=V5 hl;refine⟨by simp[h1],fun i k' x b' hi=>?_⟩;cases i with
    |zero=>simp at hi;obtain⟨rfl,_⟩:=hi;exact⟨k,rfl,rfl⟩
    |succ i=>simpa using h2 i k' x b' (by simpa using hi)
   cases h
  |_=>simp[Gf]at h
theorem eI: ∀es,tu es=es.map (·.2.2)
 |[]=>rfl
 |e::r=>by simp[tu,eI r]
theorem Gc{H:Type}(x:Lit×DataW H): ∀l,(DataW.insert x l).Perm (x::l)
 |[]=> .refl _
 |y::r=>by
  simp only[DataW.insert];split
  ·exact .refl _
  exact((Gc x r).cons y).trans (.swap x y r)
theorem Zf{H:Type}: ∀l:List (Lit×DataW H),(l.foldr DataW.insert []).Perm l
 |[]=> .refl _
 |x::r=>(Gc x _).trans ((Zf r).cons x)
theorem qW.below[zN]{w w' :World}{H:qn}{ι:vG}{Im:Nat->Prop}(hi:qW w H ι Im)(hb:Below w.heap.size w w'):
    qW w' H ι (fun b=>Im b\/(w.heap.size<=b/\b<w'.heap.size))/\w8 w H ι Im w' H ι (fun b=>Im b\/(w.heap.size<=b/\b<w'.heap.size)):=by
  have he:w8 w H ι Im w' H ι (fun b=>Im b\/(w.heap.size<=b/\b<w'.heap.size)):={
    comp:=fun β b h=>⟨b,h,vV b _⟩
    im:=fun _ h=> .inl h
    mw:=fun b h=>h.elim .inl fun h=> .inr (.inl h.1)
    bC:=fun β x z h hu=> .inr ⟨β,x,h,hu⟩
    ka:=fun b h _=>hb.block b h
    size:=hb.size
    io:=⟨hb.os,hb.output⟩ }
  have xB: ∀β b z,H.get β=some b->b.vn (ι β) z->z<w.heap.size:=fun β b z hB hu=>(hi.mX β b hB).rD hu
  refine⟨⟨fun β b hB=>?_,hi.inj,fun b h=>?_,fun β b z hB hu h=>?_,zN.go hi.G0 hi.W6 fun b hb=>he.Qo hi b hb,fun b hb=> .inl (hi.W6 b hb)⟩,he⟩
  · exact(hi.mX β b hB).mono hi he fun hu=>⟨rfl,fun x hx=>hb.block _ (xB β b x hB hx)⟩
  · rcases h with h|h
    · exact Nat.lt_of_lt_of_le (hi.im b h) hb.size
    · exact h.2
  · rcases h with h|h
    · exact hi.KJ β b z hB hu h
    · have:=xB β b z hB hu
      omega
theorem Br[zN]{P:Program}{fs fk:FuncId}{kt:TypeId}(hkt:P.underlying kt=some (.int .i64))(hen:enters P fs)
  (sN: ∀(l b nn:Nat)(D0:DataW Unit)(w:World),l<w.heap.size->w.cell? ⟨l,0,none⟩=some (.map (some b))->w.ownsMap P kt (fun _=>some (.nil,[])) b nn D0->Maps.size D0<=maxLen->Maps.size D0*8<=140737488355328->
   Calls P fs #[.func (.func fk) #[] #[.pointer (some ⟨l,0,none⟩)]] w fun e w' => ∃(v:Value)(ss:List Int),e= .returned v/\ss.Perm (intKeys D0)/\w'.ownsRow w.heap.size kt 1 v ss.length ((ss.mergeSort (fun x y=>decide (x<=y))).map encZ)/\(v= .slice none 0 0↔ss=[])/\Below w.heap.size w w')
  {args:List AV} {H:qn} {r:AV} {H' :qn} (h:Ks fk args H=some (r,H')):enters P fs/\ie P fs args H r H' :=by
 refine⟨hen, ?_⟩;unfold Ks at h;split at h
 ·rename_i g es zI;split at h
  ·rename_i ks G5;split at h
   ·rename_i hc;obtain⟨rfl,pC⟩:=hc;cases h;intro w ι Im vs hi hl ha;obtain⟨v0,rfl⟩: ∃v0,vs=[v0]:=by
     match vs,hl with
     |[v0],_=>exact⟨v0,rfl⟩
    have h0:=ha 0 _ _ rfl rfl;cases h0 with
    |lr _ _ _ va vb Wa Tm hA hB=>
    have:va=[]:=by cases va with|nil=>rfl|cons=>simp at Wa
    subst this;obtain⟨p0,rfl⟩: ∃p0,vb=[p0]:=by
     match vb,Tm with
     |[p0],_=>exact⟨p0,rfl⟩
    have hp:=hB 0 _ _ rfl rfl;cases hp with
    |ptr _ _ c hbox=>
    have ZM:=hi.mX 0 (.box [.map 1]) rfl;obtain⟨cv,elem,fz,q1,q2,q3,q4,q5⟩:=ZM;obtain⟨m0,hm0⟩: ∃m0,cv[0]? =some m0:=⟨cv[0]'(by rw[<- q3];simp),by simp⟩;have hmr:=q5 0 _ _ rfl hm0;cases hmr with
    |map _ _ _ _=>
    obtain⟨zO,g1,g2,g3⟩:=hi.mX 1 (.map es zI) rfl;obtain⟨k1,k2⟩:=V5 G5;simp only[Tz,zB,decide_eq_true_eq,List.all_eq_true]at pC;obtain⟨⟨⟨⟨f1,f2⟩,f3⟩,f4⟩,f5⟩:=pC;have hbw: ∀β b,qn.get [(0,qD.box [AV.map 1]),(1,qD.map es zI)] β=some b->b.used=true->(ι β).b<w.heap.size:=fun β b hB hu=>(hi.mX β b hB).lt hu;have JI: ∀(i:Nat) e,zO[i]? =some e-> ∃n,ks[i]? =some n/\e.key=encZ n/\e.born=(tu es)[i]?.getD 0/\i<es.length:=by
     intro i e he;have xB:i<es.length:=g2 ▸ (qG he).1;obtain⟨pk,pv,pb,rS⟩: ∃a b c,es[i]? =some (a,b,c):=⟨es[i].1,es[i].2.1,es[i].2.2,by simp[xB]⟩;obtain⟨n,hn,rfl⟩:=k2 i _ _ _ rS;obtain⟨r1,r2,r3⟩:=g3 i _ _ _ e rS he;refine⟨n,hn, ?_,by rw[eI];simp[rS,r3],xB⟩;have:=r1;generalize e.key=kk at this;cases this;rfl
    have hkeys:zO.map (·.key)=ks.map encZ:=by
     apply List.ext_getElem?;intro i;cases he:zO[i]? with
     |none=>
      have h1:zO.length<=i:=by simpa using he
      have h2:ks.length<=i:=by omega
      simp[he,h2]
     |some e=>
      obtain⟨n,hn,hk,_⟩:=JI i e he;simp[he,hn,hk]
    have hborn:zO.map (·.born)=tu es:=by
     apply List.ext_getElem?;intro i;have hsl:(tu es).length=es.length:=by rw[eI];simp
     cases he:zO[i]? with
     |none=>
      have h1:zO.length<=i:=by simpa using he
      have h2:(tu es).length<=i:=by omega
      simp[he,h2]
     |some e=>
      obtain⟨n,_,_,hb,xB⟩:=JI i e he;have:i<(tu es).length:=by omega
      simp[he,hb,this]
    have hrd: ∀(i:Nat) e,zO[i]? =some e-> ∃n,ks[i]? =some n/\WideElems.rd P kt (fun _=>some ((.nil:DataW Unit),[])) e=some (.int .i64 n,.nil):=by
     intro i e he;obtain⟨n,hn,hk,_⟩:=JI i e he;refine⟨n,hn, ?_⟩;obtain⟨b1,b2⟩:=f2 n (qX hn);have hw:(Lit.int .i64 n).wf=true:=by simp[Lit.wf,IntKind.min,IntKind.max,IntKind.signed,IntKind.bits];omega
     simp[WideElems.rd,hk,encZ,keyOf,hkt,mapKey,hw]
    let R:Value->Option (DataW Unit×List MemPlace):=fun _=>some (.nil,[])
    have hgl:(zO.map (WideElems.rg P kt R)).map (fun p=>intOf p.1)=ks:=by
     apply List.ext_getElem?;intro i;cases he:zO[i]? with
     |none=>
      have h1:zO.length<=i:=by simpa using he
      have h2:ks.length<=i:=by omega
      simp[he,h2]
     |some e=>
      obtain⟨n,hn,hk⟩:=hrd i e he;simp[he,hn,WideElems.rg,R,hk,intOf]
    let D0:DataW Unit:= .map ((zO.map (WideElems.rg P kt R)).foldr DataW.insert [])
    have G8:w.ownsMap P kt R (ι 1).b zO.length D0:=by
     refine⟨⟨zO⟩,zI,g1,⟨?_,⟨fun x hx=>?_, ?_, ?_⟩,fun x hx=>?_⟩,xJ _,rfl⟩
     ·show zO.length<=maxLen;simp only[maxLen];omega
     ·apply f4;rw[<- hborn];exact List.mem_map_of_mem hx
     ·show(zO.map (·.born)).Nodup;rw[hborn];exact f3
     ·show(zO.map (·.key)).Nodup;rw[hkeys];exact List.pairwise_map.2 (f1.imp fun jv he=>jv (encZ_inj he))
     obtain⟨i,vq⟩:=jz hx;obtain⟨n,_,hr⟩:=hrd i x vq;exact⟨_,hr⟩
    have hperm:(intKeys D0).Perm ks:=by
     have:=(Zf (zO.map (WideElems.rg P kt R))).map (fun p=>intOf p.1);rw[hgl]at this;exact this
    have bO:Maps.size D0=ks.length:=by
     have:=(Zf (zO.map (WideElems.rg P kt R))).length_eq;show((zO.map (WideElems.rg P kt R)).foldr DataW.insert []).length=_;rw[this];simp;omega
    have JH:w.cell? ⟨(ι 0).b,0,none⟩=some (.map (some (ι 1).b)):=by
     simp[World.cell?,q1,hm0]
    refine(sN (ι 0).b (ι 1).b zO.length D0 w (hbw 0 _ rfl rfl) JH G8 (by rw[bO];simp only[maxLen];omega) (by rw[bO];omega)).mono ?_;rintro e w' ⟨v,ss,rfl,hS,cE,Xn,hb⟩;have Ep:=hS.trans hperm;rw[Bp ks ss Ep]at cE;obtain⟨w1,w2⟩:=cE;have hlen:(md ks).length=ss.length:=((lM ks).trans Ep.symm).length_eq;rcases w2 with ⟨rfl,hz⟩|⟨g0,cap,cur,rfl,c1,c2,c3,c4,c5,c6⟩
    ·have e2:md ks=[]:=List.length_eq_zero_iff.1 (by omega);rw[e2];obtain⟨hI,hE⟩:=qW.put (Qh:=GF rfl) hi (w' :=w') 2 (.row true 0 []) ⟨0,0,[]⟩ (fun x hx=>by cases hx) ⟨hb.size,hb.os,hb.output⟩ (fun b h _=>hb.block b h) (fun h=>by cases h) (fun _=>rfl);refine⟨_,_,_,rfl,hI,hE, ?_⟩;exact .row 2 0 0 0 _ (.row true 0 []) rfl rfl (fun _=>⟨_,_,_,rfl⟩) (fun _ _ _ e=>by cases e;exact xJ _) (fun _ _ _ e _=>by cases e;exact⟨xJ _,rfl⟩)
    have jv:ss≠[]:=fun e=>by
     have:=Xn.2 e;cases this
    have e1:(md ks).isEmpty=false:=by
     cases hs:md ks with
     |nil=>rw[hs]at hlen;exact absurd (List.length_eq_zero_iff.1 hlen.symm) jv
     |cons=>rfl
    have e2:zC 1 (md ks)=1:=by
     cases hs:md ks with
     |nil=>rw[hs]at hlen;exact absurd (List.length_eq_zero_iff.1 hlen.symm) jv
     |cons=>rfl
    rw[e1,e2];have Ys: ∀(i:Nat)(n:Int),(md ks)[i]? =some n->cur[i]? =some (encZ n):=by
     intro i n hn;have h1:i<(md ks).length:=(qG hn).1;have h2:(cur.toList.take (ss.length*1))[i]? =some (encZ n):=by rw[c6];simp[hn]
     rw[List.getElem?_take_of_lt (by omega)]at h2;rw[<- Array.getElem?_toList];exact h2
    have JJ:((md ks).map fun k=>[PV.int .i64 k]).length=(md ks).length:=List.length_map _;obtain⟨hI,hE⟩:=qW.put (Qh:=GF rfl) hi (w' :=w') 2 (.row false 1 ((md ks).map fun k=>[PV.int .i64 k])) ⟨g0,cap,[]⟩ (fun x hx=>by cases hx) ⟨hb.size,hb.os,hb.output⟩ (fun b h _=>hb.block b h) (fun _=> .inl c1) (fun _=>by
     refine⟨cur,kt,(0,0),by simpa using c2,xE _,by simpa using c5,by omega,by rw[JJ];simpa using(by omega:(md ks).length<=cap),fun e he=>?_,fun i e j p h1 h2=>?_,fun i e j p h1 h2=>?_⟩
     ·obtain⟨k,_,rfl⟩:=List.mem_map.1 he
      rfl
     ·simp only[List.getElem?_map,yi]at h1
      obtain⟨n,hn,rfl⟩:=h1
      cases j with
      |zero=>simp at h2;subst h2;rfl
      |succ j=>simp at h2
     simp only[List.getElem?_map,yi]at h1
     obtain⟨n,hn,rfl⟩:=h1
     cases j with
     |zero=>
      simp at h2
      subst h2
      exact⟨encZ n,by simpa using Ys i n hn,.int .i64 n⟩
     |succ j=>simp at h2)
    refine⟨_,_,_,rfl,hI,hE, ?_⟩;refine .row 2 _ 0 _ _ (.row false 1 ((md ks).map fun k=>[PV.int .i64 k])) rfl rfl (fun _=>⟨_,_,_,rfl⟩) (fun _ _ _ e=>by cases e;rw[JJ];exact xJ _) (fun _ _ _ e _=>?_);cases e;refine⟨by rw[JJ];omega, ?_⟩;simp only[w9,if_false];exact⟨⟨g0,0,none⟩,by rw[hlen];simp,rfl,by simp,fun _=>by simp⟩
   cases h
  cases h
 cases h
end Go.Gm
namespace Go.Gm
open Go Go.RowKit Go.Sort
end Go.Gm
namespace Go.Gm
open Go
def XT(t:TypeId)(args:List AV)(H:qn):Option (AV×qn):=
 match args with
 |[.ptr β 0]=>match H.get β with
  |_=>none
 |_=>none
theorem Pw[zN]{P:Program}{f:FuncId}{t:TypeId}(hen:enters P f)
  (Ts: ∀(b:Nat)(w:World),w.cell? ⟨b,0,none⟩=some (.pointer (some ⟨b,0,none⟩))->Calls P f #[.pointer (some ⟨b,0,none⟩)] w fun e w' =>e= .returned (.tuple #[])/\w' =w)
  (er: ∀(b:Nat)(w:World),w.cell? ⟨b,0,none⟩=some (.pointer none)->w.shape? b=some (t,2)->w.frozen? ⟨b,0,none⟩=false->
   Calls P f #[.pointer (some ⟨b,0,none⟩)] w fun e w' =>e= .returned (.tuple #[])/\w' =w.setCell ⟨b,0,none⟩ (.pointer (some ⟨b,0,none⟩)))
  {args:List AV} {H:qn} {r:AV} {H' :qn} (h:XT t args H=some (r,H')):enters P f/\ie P f args H r H' :=by
 refine⟨hen, ?_⟩;unfold XT at h;split at h;rotate_left
 ·cases h
 rename_i β;split at h;cases h
abbrev qa:=List UInt8
structure Sl (α:Type) where
 nil:Bool
 l:List α
 deriving Inhabited,DecidableEq
def dG(s:qa):List PV:=[.str s]
def zX(n:Int):List PV:=[.int .i64 n]
def kE(k:IntKind)(n:Int):List PV:=[.int k n]
def HA(b:Bool):List PV:=[.bool b]
def Zy(b:UInt8):List PV:=[.int .u8 b.toNat]
def ng{α:Type}(k:Nat)(e:α->List PV)(s:Sl α):List PV:=[.sl s.nil (zC k s.l) (List.map e s.l)]
def Ai{α:Type}(e:α->List PV)(s:α×α):List PV:=e s.1++e s.2
abbrev dI:Prop:= ∀x:Bool,(x&&true)=x
def qi{α:Type}(l:List α)(i:Int):Option α:=if 0<=i then l[i.toNat]? else none
def kb{α:Type}(l:List α)(lo hi:Int):Option (List α):=if(0<=lo/\0<=hi)/\(lo.toNat<=hi.toNat/\hi.toNat<=l.length)then some ((l.take hi.toNat).drop lo.toNat)else none
def bX{α:Type}(l:List α)(lo:Int):Option (List α):=if 0<=lo/\lo.toNat<=l.length then some (l.drop lo.toNat)else none
def kx{α:Type}(l:List α)(hi:Int):Option (List α):=if 0<=hi/\hi.toNat<=l.length then some (l.take hi.toNat)else none
def u8(n:Int):UInt8:=UInt8.ofNat n.toNat
def Kj(n b:Nat):Bool:=qg n b
section
variable {α:Type} {l:List α} {i lo hi:Int} {x:α} {r:List α}
theorem iK(h:qi l i=some x)(k:IntKind):wW (.pv (.int k i))=some i.toNat:=by
 unfold qi at h;split at h
 ·rename_i h0;simp[wW,h0]
 cases h
theorem Ic(k:IntKind){n:Int}(h:0<=n):wW (.pv (.int k n))=some n.toNat:=by simp[wW,h]
theorem ep(h:qi l i=some x):l[i.toNat]? =some x:=by
 unfold qi at h;split at h
 ·exact h
 cases h
theorem iJ{β:Type}(e:α->β)(h:qi l i=some x):(List.map e l)[i.toNat]? =some (e x):=by simp[ep h]
theorem Yo(h:qi l i=some x):l.isEmpty=false:=by
 have:=ep h;cases l<;>simp_all
theorem Qg(h:qi l i=some x)(k:Nat):zC k l=k:=by
 have:=ep h;cases l<;>simp_all [zC]
theorem SN(h:qi l i=some x)(k:Nat):(zC k l=k)=True:=by simp[Qg h]
theorem Qf(h:qi l i=some x):(i.toNat<l.length)=True:=by
 have:=ep h;simp only[eq_iff_iff,iff_true];exact(qG this).1
theorem RO(h:kb l lo hi=some r)(k:IntKind):wW (.pv (.int k lo))=some lo.toNat:=by
 unfold kb at h;split at h
 ·rename_i h0;simp[wW,h0.1.1]
 cases h
theorem RM(h:kb l lo hi=some r)(k:IntKind):wW (.pv (.int k hi))=some hi.toNat:=by
 unfold kb at h;split at h
 ·rename_i h0;simp[wW,h0.1.2]
 cases h
theorem RN(h:kb l lo hi=some r):(lo.toNat<=hi.toNat)=True:=by
 unfold kb at h;split at h
 ·rename_i h0;simp[h0.2.1]
 cases h
theorem Bv(h:kb l lo hi=some r):(hi.toNat<=l.length)=True:=by
 unfold kb at h;split at h
 ·rename_i h0;simp[h0.2.2]
 cases h
theorem QL(h:kb l lo hi=some r):(l.take hi.toNat).drop lo.toNat=r:=by
 unfold kb at h;split at h<;>simp_all
theorem subF_lo(h:bX l lo=some r)(k:IntKind):wW (.pv (.int k lo))=some lo.toNat:=by
 unfold bX at h;split at h
 ·rename_i h0;simp[wW,h0.1]
 cases h
theorem subF_le(h:bX l lo=some r):(lo.toNat<=l.length)=True:=by
 unfold bX at h;split at h
 ·rename_i h0;simp[h0.2]
 cases h
theorem Uo(h:bX l lo=some r):l.drop lo.toNat=r:=by
 unfold bX at h;split at h<;>simp_all
theorem subT_hi(h:kx l hi=some r)(k:IntKind):wW (.pv (.int k hi))=some hi.toNat:=by
 unfold kx at h;split at h
 ·rename_i h0;simp[wW,h0.1]
 cases h
theorem OZ(h:kx l hi=some r):(hi.toNat<=l.length)=True:=by
 unfold kx at h;split at h
 ·rename_i h0;simp[h0.2]
 cases h
theorem Uq(h:kx l hi=some r):l.take hi.toNat=r:=by
 unfold kx at h;split at h<;>simp_all
theorem Gs{β:Type}(e:α->β)(h:kb l lo hi=some r):((List.map e l).take hi.toNat).drop lo.toNat=List.map e r:=by rw[<- List.map_take,<- List.map_drop,QL h]
theorem EW{β:Type}(e:α->β)(h:bX l lo=some r):(List.map e l).drop lo.toNat=List.map e r:=by rw[<- List.map_drop,Uo h]
theorem EX{β:Type}(e:α->β)(h:kx l hi=some r):(List.map e l).take hi.toNat=List.map e r:=by rw[<- List.map_take,Uq h]
theorem BB(h:kb l lo hi=some r)(k:Nat):zC (zC k l) r=zC k r:=by
 have:=QL h;cases r with
 |nil=>rfl
 |cons=>cases l<;>simp_all [zC]
theorem L2(h:bX l lo=some r)(k:Nat):zC (zC k l) r=zC k r:=by
 have:=Uo h;cases r with
 |nil=>rfl
 |cons=>cases l<;>simp_all [zC]
theorem L3(h:kx l hi=some r)(k:Nat):zC (zC k l) r=zC k r:=by
 have:=Uq h;cases r with
 |nil=>rfl
 |cons=>cases l<;>simp_all [zC]
theorem RR{β:Type}(k:Nat)(e:α->β)(l:List α):zC k (List.map e l)=zC k l:=by cases l<;>rfl
theorem szc_szc(k:Nat)(l:List α):zC (zC k l) l=zC k l:=by cases l<;>rfl
theorem RS(k:Nat):zC k ([]:List α)=0:=rfl
theorem Bz(k:Nat)(x:α)(l:List α):zC k (x::l)=k:=rfl
theorem BA(k:Nat)(l:List α)(x:α)(r:List α):zC k (l++x::r)=k:=by cases l<;>rfl
theorem RT(k:Nat)(l:List α)(i:Nat)(x:α):zC k (l.set i x)=zC k l:=by cases l<;>cases i<;>rfl
theorem Tb{β:Type}(e:α->β)(l:List α):(List.map e l).isEmpty=l.isEmpty:=by cases l<;>rfl
theorem HS(l:List α)(x:α)(r:List α):(l++x::r).isEmpty=false:=by cases l<;>rfl
theorem Td(l:List α)(i:Nat)(x:α):(l.set i x).isEmpty=l.isEmpty:=by cases l<;>cases i<;>rfl
theorem HR(x:α)(l:List α):(x::l).isEmpty=false:=rfl
theorem Tc:([]:List α).isEmpty=true:=rfl
theorem szc_or{β:Type}(k:Nat)(e:α->β)(l:List α):(zC k l=k\/List.map e l=[])=True:=by cases l<;>simp[zC]
theorem map_set{β:Type}(e:α->β)(l:List α)(i:Nat)(x:α):(List.map e l).set i (e x)=List.map e (l.set i x):=by simp[List.map_set]
theorem EV(s:qa):List.map (fun b=>[PV.int .u8 (b.toNat:Int)]) s=List.map Zy s:=rfl
theorem iv: ∀s:qa,nL (List.map Zy s)=some s
 |[]=>rfl
 |b::s=>by simp[Zy,nL,iv s]
theorem La(b:UInt8):u8 (b.toNat:Int)=b:=by simp[u8]
theorem RV(n:Int):((u8 (IntKind.u8.wrap n)).toNat:Int)=IntKind.u8.wrap n:=by
 have h:0<=IntKind.u8.wrap n/\IntKind.u8.wrap n<256:=by
  simp only[IntKind.wrap,IntKind.bits,IntKind.signed];constructor
  ·simp;omega
  simp;omega
 simp only[u8,UInt8.toNat_ofNat'];omega
theorem range1:List.range 1=[0]:=rfl
theorem range2:List.range 2=[0,1]:=rfl
theorem range3:List.range 3=[0,1,2]:=rfl
theorem range4:List.range 4=[0,1,2,3]:=rfl
theorem range5:List.range 5=[0,1,2,3,4]:=rfl
theorem range6:List.range 6=[0,1,2,3,4,5]:=rfl
def fI(te:TI)(β L n:Nat)(src:List (List PV))(nx:Nat):Option qD->Option bY
 |some (.row true _ es)=>if L=es.length/\n=0 then jH te (.row β L 0 n) src β nx nx else none
 |some (.row false sz es)=>
  if L=es.length/\sz=te.size/\qg (n+src.length) te.bytes=true then
   if n=es.length then some (.row β (es++src).length 0 (es++src).length,[(β,.row false te.size (es++src))],nx)
   else some (.row β (es.take n++src++es.drop (n+src.length)).length 0 (n+src.length),[(β,.row false te.size (es.take n++src++es.drop (n+src.length)))],nx)
  else none
 |_=>none
theorem Ot(te:TI)(β L n nx sz:Nat)(es src:List (List PV)):fI te β L n src nx (some (.row false sz es))=
  if L=es.length/\sz=te.size/\qg (n+src.length) te.bytes=true then
   if n=es.length then some (.row β (es++src).length 0 (es++src).length,[(β,.row false te.size (es++src))],nx)
   else some (.row β (es.take n++src++es.drop (n+src.length)).length 0 (n+src.length),[(β,.row false te.size (es.take n++src++es.drop (n+src.length)))],nx)
  else none:=rfl
theorem Ou(te:TI)(β L n nx sz:Nat)(es src:List (List PV)):fI te β L n src nx (some (.row true sz es))=if L=es.length/\n=0 then jH te (.row β L 0 n) src β nx nx else none:=rfl
def XR(te:TI)(β L n:Nat)(H:qn)(nx:Nat)(d:Option bY):Option (Nat×List (List PV))->Option bY
 |none=>d
 |some (mU,src)=>if(mU=te.size\/src=[])/\0<te.size then fI te β L n src nx (H.get β)else none
theorem He(te:TI)(β L n:Nat)(x:AV)(H:qn)(nx:Nat):ua te (.row β L 0 n) x H nx=XR te β L n H nx (bx te (.row β L 0 n) x H nx) (vT x H):=by
 unfold ua XR;cases vT x H with
 |none=>rfl
 |some p=>
  obtain⟨mU,src⟩:=p;simp only;split
  ·unfold fI;cases H.get β with
   |none=>rfl
   |some b=>
    cases b with
    |row qq sz es=>cases qq<;>simp
    |_=>rfl
  rfl
theorem Hd(te:TI)(sz:Nat)(es:List (List PV))(x:AV)(H:qn)(nx:Nat):ua te (.pv (.sl true sz es)) x H nx=
  match vT x H with
  |none=>bx te (.pv (.sl true sz es)) x H nx
  |some (mU,src)=>if(mU=te.size\/src=[])/\0<te.size then jH te (.pv (.sl true sz es)) src nx nx (nx+1)else none:=rfl
theorem Hf(te:TI)(x:AV)(H:qn)(nx:Nat):ua te .aU x H nx=
  match vT x H with
  |none=>bx te .aU x H nx
  |some (mU,src)=>if(mU=te.size\/src=[])/\0<te.size then jH te .aU src nx nx (nx+1)else none:=rfl
theorem Be(te:TI)(β k nx:Nat)(e:α->List PV)(l:List α)(c:List PV)(src:List (List PV))(hk:k=te.size)(hr:qg (l.length+(c::src).length) te.bytes=true):
  fI te β l.length l.length (c::src) nx (some (.row l.isEmpty (zC k l) (List.map e l)))=
   some (.row β (List.map e l++c::src).length 0 (List.map e l++c::src).length,[(β,.row false k (List.map e l++c::src))],nx):=by
 subst hk;cases l with
 |nil=>
  have Lz:qg (src.length+1) te.bytes=true:=by simpa using hr
  simp[fI,jH,Lz]
 |cons a l=>
  have Lz:qg (l.length+1+(src.length+1)) te.bytes=true:=by simpa using hr
  simp[fI,zC,Lz]
theorem AP{γ:Type}(te:TI)(s:AV)(e' :γ->List PV)(xs:List γ)(b nx cM:Nat)(hs:xs.isEmpty=false)(hr:qg xs.length te.bytes=true):
  jH te s (List.map e' xs) b nx cM=some (.row b xs.length 0 xs.length,[(b,.row false te.size (List.map e' xs))],cM):=by
 cases xs with
 |nil=>simp at hs
 |cons c r=>
  have Lz:qg (r.length+1) te.bytes=true:=by simpa using hr
  simp[jH,Lz]
theorem app_ne{γ:Type}{l s:List γ}(h:(l.isEmpty&&s.isEmpty)=false):(l++s).isEmpty=false:=by cases l<;>cases s<;>simp_all
theorem app_szc{γ:Type}{l s:List γ}(h:(l.isEmpty&&s.isEmpty)=false)(k:Nat):zC k (l++s)=k:=by cases l<;>cases s<;>simp_all [zC]
end
structure PY where
 es:List (Int×Int×Nat)
 zI:Nat
 deriving Inhabited
def entE(e:Int×Int×Nat):PV×PV×Nat:=(.int .i64 e.1,.int .i64 e.2.1,e.2.2)
def lookB(te:TI)(k:PV)(ok:Bool):Option qD->Option AV
 |some (.map es _)=>match findKey k es 0 with
  |some (some (_,v,_))=>some (if ok then .xS [.pv v,.pv (.bool true)]else .pv v)
  |some none=>some (if ok then .xS [.pv (Kg te),.pv (.bool false)]else .pv (Kg te))
  |none=>none
 |_=>none
def updB(β:Nat)(k v:PV):Option qD->Option (List (Nat×qD))
 |some (.map es zI)=>match findKey k es 0 with
  |some (some (i,_,born))=>some [(β,.map (es.set i (k,v,born)) zI)]
  |some none=>some [(β,.map (es++[(k,v,zI)]) (zI+1))]
  |none=>none
 |_=>none
def delB(β:Nat)(k:PV):Option qD->Option (List (Nat×qD))
 |some (.map es zI)=>match findKey k es 0 with
  |some (some (i,_,_))=>some [(β,.map (es.eraseIdx i) zI)]
  |some none=>some [(β,.map es zI)]
  |none=>none
 |_=>none
theorem Sb(tk te:TI)(β:Nat)(k:PV)(ok:Bool)(H:qn):dN tk te (.map β) (.pv k) ok H=if xv tk.td k=true then lookB te k ok (H.get β)else none:=by
 unfold dN J7;simp only;split
 ·cases H.get β with
  |none=>rfl
  |some b=>cases b<;>rfl
 rfl
theorem Se(tk:TI)(β:Nat)(k v:PV)(H:qn):pJ tk (.map β) (.pv k) v H=if xv tk.td k=true then updB β k v (H.get β)else none:=by
 unfold pJ;simp only;split
 ·cases H.get β with
  |none=>rfl
  |some b=>cases b<;>rfl
 rfl
theorem Aa(tk te:TI)(β:Nat)(k:PV)(H:qn):ij tk te (.map β) (.pv k) H=none:=rfl
theorem KV(β:Nat)(kd:IntKind)(born:Int)(v:PV)(H:qn):gj (.map β) (.pv (.int kd born)) v H=none:=rfl
theorem S8(tk:TI)(β:Nat)(k:PV)(H:qn):rC tk (.map β) (.pv k) H=if xv tk.td k=true then delB β k (H.get β)else none:=by
 unfold rC;simp only;split
 ·cases H.get β with
  |none=>rfl
  |some b=>cases b<;>rfl
 rfl
section
variable (b:Bool) (β:Nat) (m:PY) (k:Int)
end
theorem j8{α:Type}{l:List α}{n:Nat}(h:n<l.length):qi l (n:Int)=some l[n]:=by simp[qi,h]
theorem mcons{α β:Type}(f:α->β)(a:α)(l:List α):List.map f (a::l)=f a::List.map f l:=rfl
theorem mnil{α β:Type}(f:α->β):List.map f ([]:List α)=[]:=rfl
theorem lnil{α:Type}:([]:List α).length=0:=rfl
theorem lcons{α:Type}(a:α)(l:List α):(a::l).length=l.length+1:=rfl
theorem lset{α:Type}(l:List α)(i:Nat)(x:α):(l.set i x).length=l.length:=List.length_set
def encx:=PLift.up (And.intro @mcons (And.intro @mnil (And.intro @lnil (And.intro @lcons (And.intro @RS (And.intro @Bz (And.intro @BA (And.intro @RT (And.intro @Tc (And.intro @HR (And.intro @HS (And.intro @Td (And.intro @lset (And.intro @La @RV))))))))))))))
theorem l6{α:Type}{P:Program}{t:TypeId}{e:α->List PV}{ok:α->Prop}{n:Nat}(h:jO P t e ok n):jO P t e (fun _=>True) n:=h.map (fun x=>x) (fun _ _=>⟨trivial,rfl⟩)
def Qz{α β:Type}(e1:α->List PV)(e2:β->List PV)(x:α×β):List PV:=e1 x.1++e2 x.2
def ga{α:Type}(_:α):Prop:=True
def YJ(_:Unit):List PV:=[]
theorem fQ{α β:Type}{P:Program}{f:Field}{fs:List Field}{e1:α->List PV}{ok1:α->Prop}{e2:β->List PV}{n off c:Nat}(ho:f.offset=off)(hc:P.cellsOf f.type=c)
  (h1:jO P f.type e1 ok1 n) (h2:pG P fs e2 ga n (off+c)):pG P (f::fs) (Qz e1 e2) ga n off:=by
 intro H enc w base spare held fuel cs a b d;obtain⟨x,m,_,h⟩:=pG.cons ho hc h1 h2 H enc w base spare held fuel cs a b d;exact⟨x,m,trivial,h⟩
theorem fNil{P:Program}(n off:Nat):pG P [] YJ ga n off:=by
 intro H enc w base spare held fuel cs a b d;obtain⟨x,m,_,h⟩:=pG.nil (P:=P) n off H enc w base spare held fuel cs a b d;exact⟨x,m,trivial,h⟩
theorem rdSl{α:Type}{P:Program}{t el:TypeId}{sz:Nat}{e:α->List PV}{ok:α->Prop}{n:Nat}(ht:P.underlying t=some (.slice el))(hc:P.cellsOf t=1)(bO:P.cellsOf el=sz)(bU:0<sz)
  (h:jO P el e ok n):jO P t (ng sz e) (fun _=>True) n:=
 ((jO.slice ht hc bO bU h).map (fun x=>(⟨x.1&&x.2.isEmpty,x.2⟩:Sl α)) (fun x _=>⟨trivial,by simp[ng,slP,Tb,RR]⟩)).mono (Nat.le_succ n)
def fT(n:Int):Prop:= -9223372036854775808<=n/\n<=9223372036854775807
def bK(s:qa):Prop:=s.length<=maxLen
def bq{α:Type}(ok:α->Prop)(s:Sl α):Prop:=(s.l.length<=maxLen/\(s.nil=true->s.l=[]))/\ ∀a∈s.l,ok a
theorem drop_cons{α:Type}{xs:List α}{i:Nat}{x:α}{r:List α}(h:xs.drop i=x::r):xs[i]? =some x/\xs.drop (i+1)=r/\i<xs.length:=by
 have h1:xs[i]? =some x:=by
  have:=congrArg (fun l=>l[0]?) h;simpa using this
 have h2:xs.drop (i+1)=r:=by
  have:=congrArg (fun l=>l.drop 1) h;simpa[List.drop_drop]using this
 exact⟨h1,h2,(qG h1).1⟩
theorem wU{α:Type}{xs:List α}{i:Nat}(h:xs.drop i=[]):xs.length<=i:=by simpa using h
theorem qI{n:Int}(h1: -9223372036854775808<=n)(h2:n<=9223372036854775807):IntKind.i64.wrap n=n:=IntWalk.i64_in n ⟨h1,h2⟩
theorem cu{n:Nat}(h:n<9223372036854775807):IntKind.i64.wrap ((n:Int)+1)=((n+1:Nat):Int):=qI (by omega) (by omega)
theorem NG(b:Bool):AV.cells (.pv (.bool b))=[(.pv (.bool b))]:=rfl
theorem Sn(k:IntKind)(n:Int):AV.cells (.pv (.int k n))=[(.pv (.int k n))]:=rfl
theorem So(l:List UInt8):AV.cells (.pv (.str l))=[(.pv (.str l))]:=rfl
theorem Av(a:Bool)(b:Nat)(c:List (List PV)):AV.cells (.pv (.sl a b c))=[(.pv (.sl a b c))]:=rfl
theorem Yc:AV.cells (.pv (.jk))=[(.pv (.jk))]:=rfl
theorem HG:AV.cells (.pv (.rY))=[(.pv (.rY))]:=rfl
theorem Yb:AV.cells (.pv (.gG))=[(.pv (.gG))]:=rfl
theorem HH:AV.cells (.pv (.dU))=[(.pv (.dU))]:=rfl
theorem As(f:FuncId):AV.cells (.pv (.fn f))=[(.pv (.fn f))]:=rfl
theorem Au(c:List PV):AV.cells (.pv (.rp c))=[(.pv (.rp c))]:=rfl
theorem NH(c:List PV):AV.cells (.pv (.agg c))=c.map .pv:=rfl
theorem NB(x y:Nat):AV.cells (.ptr x y)=[(.ptr x y)]:=rfl
theorem HD(x y z u:Nat):AV.cells (.yT x y z u)=[(.yT x y z u)]:=rfl
theorem HE(c:List PV)(x:Nat):AV.cells (.mS c x)=[(.mS c x)]:=rfl
theorem NC(x y z u:Nat):AV.cells (.row x y z u)=[(.row x y z u)]:=rfl
theorem NF:AV.cells (.aU)=[(.aU)]:=rfl
theorem NA(x:Nat):AV.cells (.map x)=[(.map x)]:=rfl
theorem Nz(f:FuncId)(a b:List AV):AV.cells (.lr f a b)=[(.lr f a b)]:=rfl
theorem ND(l:List AV):AV.cells (.xS l)=[(.xS l)]:=rfl
theorem Sm(c:List AV):AV.cells (.agg c)=c:=rfl
abbrev qm(n:Int):AV:= .pv (.int .i64 n)
abbrev zt(b:Bool):AV:= .pv (.bool b)
abbrev qL(s:qa):AV:= .pv (.str s)
abbrev o6(l:List PV):AV:= .pv (.agg l)
abbrev v_l{α:Type}(k:Nat)(e:α->List PV)(s:Sl α):AV:= .pv (.sl s.nil (zC k s.l) (List.map e s.l))
abbrev qp{α:Type}(β:Nat)(l:List α):AV:= .row β l.length 0 l.length
abbrev b_x(l:List PV):qD:= .box (List.map .pv l)
abbrev b_r{α:Type}(k:Nat)(e:α->List PV)(l:List α):qD:= .row l.isEmpty (zC k l) (List.map e l)
abbrev b_m(m:PY):qD:= .map (List.map entE m.es) m.zI
theorem v_i_eq(n:Int):qm n= .pv (.int .i64 n):=rfl
theorem v_b_eq(b:Bool):zt b= .pv (.bool b):=rfl
theorem v_s_eq(s:qa):qL s= .pv (.str s):=rfl
theorem v_g_eq(l:List PV):o6 l= .pv (.agg l):=rfl
theorem v_l_eq{α:Type}(k:Nat)(e:α->List PV)(s:Sl α):v_l k e s= .pv (.sl s.nil (zC k s.l) (List.map e s.l)):=rfl
theorem v_r_eq{α:Type}(β:Nat)(l:List α):qp β l= .row β l.length 0 l.length:=rfl
theorem b_x_eq(l:List PV):b_x l= .box (List.map .pv l):=rfl
theorem b_r_eq{α:Type}(k:Nat)(e:α->List PV)(l:List α):b_r k e l= .row l.isEmpty (zC k l) (List.map e l):=rfl
theorem b_m_eq(m:PY):b_m m= .map (List.map entE m.es) m.zI:=rfl
theorem Aq(b:UInt8):Zy b=[.int .u8 b.toNat]:=rfl
theorem intE_eq(n:Int):zX n=[.int .i64 n]:=rfl
theorem strE_eq(s:qa):dG s=[.str s]:=rfl
theorem An(b:Bool):HA b=[.bool b]:=rfl
theorem kE_eq(k:IntKind)(n:Int):kE k n=[.int k n]:=rfl
theorem slE_eq{α:Type}(k:Nat)(e:α->List PV)(s:Sl α):ng k e s=[.sl s.nil (zC k s.l) (List.map e s.l)]:=rfl
theorem Aj{α:Type}(e:α->List PV)(s:α×α):Ai e s=e s.1++e s.2:=rfl
def wordx:=PLift.up (And.intro @v_i_eq (And.intro @v_b_eq (And.intro @v_s_eq (And.intro @v_g_eq (And.intro @v_l_eq (And.intro @v_r_eq (And.intro @b_x_eq (And.intro @b_r_eq (And.intro @b_m_eq (And.intro @Aq (And.intro @intE_eq (And.intro @strE_eq (And.intro @An (And.intro @kE_eq (And.intro @slE_eq @Aj)))))))))))))))
section
variable {α β:Type} {r:β} {P:Prop}
theorem bs{o:Option α}{k:α->Option β}(f: ∀x,o=some x->k x=some r->P)(h:o>>=k=some r):P:=by
 obtain⟨x,h1,h2⟩:=Option.bind_eq_some_iff.1 h;exact f x h1 h2
theorem it{b:Bool}{p q:Option β}(f:b=true->p=some r->P)(g:b=false->q=some r->P)(h:(if b=true then p else q)=some r):P:=by
 cases b
 ·exact g rfl h
 exact f rfl h
theorem gd{Q:Prop}[Decidable Q]{p:Option β}(f:Q->p=some r->P)(h:(if Q then p else none)=some r):P:=by
 split at h
 ·exact f ‹_› h
 cases h
variable {l:List α} {i lo hi:Int}
theorem bw{k:α->Option β}(e:α->List PV)(f: ∀x,qi l i=some x->(∀ kd,wW (.pv (.int kd i))=some i.toNat)->(List.map e l)[i.toNat]? =some (e x)->(i.toNat<l.length)=True->k x=some r->P)(h:qi l i>>=k=some r):P:=
 bs (fun x hx=>f x hx (iK hx) (iJ e hx) (Qf hx)) h
theorem bW{k:α->Option β}(e:α->List PV)(z:Nat)(f: ∀x,qi l i=some x->(∀ kd,wW (.pv (.int kd i))=some i.toNat)->(List.map e l)[i.toNat]? =some (e x)->(i.toNat<l.length)=True->l.isEmpty=false->zC z l=z->k x=some r->P)(h:qi l i>>=k=some r):P:=
 bs (fun x hx=>f x hx (iK hx) (iJ e hx) (Qf hx) (Yo hx) (Qg hx z)) h
variable {k:List α->Option β}
theorem b2(e:α->List PV)(f: ∀x,kb l lo hi=some x->(∀ kd,wW (.pv (.int kd lo))=some lo.toNat)->(∀ kd,wW (.pv (.int kd hi))=some hi.toNat)->(lo.toNat<=hi.toNat)=True->(hi.toNat<=l.length)=True->((List.map e l).take hi.toNat).drop lo.toNat=List.map e x->(∀ z,zC (zC z l) x=zC z x)->k x=some r->P)(h:kb l lo hi>>=k=some r):P:=
 bs (fun x hx=>f x hx (RO hx) (RM hx) (RN hx) (Bv hx) (Gs e hx) (BB hx)) h
variable {s:List α}
theorem rG(k:Nat)(e:α->List PV)(l:List α)(te:TI)(β nx:Nat)(c:List PV)(hk:k=te.size)(hr:qg (l.length+1) te.bytes=true):
  fI te β l.length l.length [c] nx (some (.row l.isEmpty (zC k l) (List.map e l)))=some (.row β (List.map e l++[c]).length 0 (List.map e l++[c]).length,[(β,.row false k (List.map e l++[c]))],nx):=Be te β k nx e l c [] hk hr
theorem rN(e:α->List PV)(hs:s.isEmpty=false)(te:TI)(v:AV)(b nx cM:Nat)(hr:qg s.length te.bytes=true):jH te v (List.map e s) b nx cM=some (.row b s.length 0 s.length,[(b,.row false te.size (List.map e s))],cM):=AP te v e s b nx cM hs hr
end
section
variable (m:PY) (k v:Int) (b:Bool) (β:Nat)
end
theorem fF{G:GP}{f:FuncId}{S:nJ}{nt:Nat}{ob:Option Code}{ra:Array ResultVar}(Z6:G.fn f=some ⟨nt,ra.toList,ob.get!⟩){c:Code}{rs:List ResultVar}{H:qn}{args:List AV}{r:Option (AV×qn)}
  (hs:S.call f=none:=by rfl) (hc:ob=some c:=by rfl) (hr:ra=⟨rs⟩:=by rfl) (hk:yV 0 H=true:=by rfl)
  (h:WR G f H.length rs (cont G (omega G S) f [.code c] (.normal,⟨pK 0 args,H,H.length⟩))=r:=by
   simp(maxSteps:=2000000) (oX:=first|assumption|rfl|exact FX.mk (by kernel_rfl)) only[go_sem,↓reduceIte,Nat.reduceLeDiff,Nat.reduceEqDiff,Nat.reduceLT,Nat.reduceAdd,Nat.reduceSub,Nat.reduceMul,reduceCtorEq,Nat.reducePow, *]):
  (omega G S).call f args H=r:=TP hs Z6 hc hr hk h
theorem fL{G:GP}{f:FuncId}{S:nJ}{fi:FI}(Z6:G.fn f=some fi){id:Nat}{c:Code}{s:St}{r:Option (Ex×St)}
  (hc:zv fi.body id=some c:=by rfl)
  (h:dz G (omega G S) f id s.nx (cont G (omega G S) f [.code c] (.normal,s))=r:=by
   simp(maxSteps:=2000000) (oX:=first|assumption|rfl|exact FX.mk (by kernel_rfl)) only[go_sem,↓reduceIte,Nat.reduceLeDiff,Nat.reduceEqDiff,Nat.reduceLT,Nat.reduceAdd,Nat.reduceSub,Nat.reduceMul,reduceCtorEq,Nat.reducePow, *]):
  (omega G S).loop f id s=r:=TQ Z6 hc h
def Ub(H:qn):List Nat->List Nat
 |[]=>[]
 |β::r=>(tC H β).refs++Ub H r
theorem VH(H:qn): ∀d:List Nat,(d.flatMap fun β=>(tC H β).refs)=Ub H d
 |[]=>rfl
 |β::r=>by rw[List.flatMap_cons,VH H r];rfl
theorem Dp(H:qn)(d roots:List Nat):tv H d roots=match roots,d with
 |[],[]=>some ([],[])
 |roots,d=>let L:=bE H 400 (roots++Ub H d) d
  if Up roots L&&mo H L L then some (L,pick H (pos L) 0 L)else none:=by
 cases roots<;>cases d<;>first|rfl|simp only[tv,VH]
theorem aNil_p1(H:qn):sE .ptr (.pv .jk) H=some true:=rfl
theorem aNil_p2(H:qn)(β o:Nat):sE .ptr (.ptr β o) H=some false:=rfl
theorem aNil_p3(H:qn)(c:List PV)(o:Nat):sE .ptr (.mS c o) H=some false:=rfl
theorem aNil_p4(H:qn)(β zF i o:Nat):sE .ptr (.yT β zF i o) H=some false:=rfl
theorem aNil_p5(H:qn)(c:List PV):sE .ptr (.pv (.rp c)) H=some false:=rfl
theorem aNil_s1(H:qn)(e:TypeId)(b:Bool)(sz:Nat)(es:List (List PV)):sE (.slice e) (.pv (.sl b sz es)) H=some b:=rfl
theorem aNil_s2(H:qn)(e:TypeId):sE (.slice e) .aU H=some false:=rfl
theorem aNil_s3(H:qn)(e:TypeId)(β zF off n:Nat):sE (.slice e) (.row β zF off n) H=match H.get β with|some (.row b _ es)=>if zF=es.length then some b else none|_=>none:=rfl
theorem aNil_m1(H:qn)(k e:TypeId):sE (.map k e) (.pv .gG) H=some true:=rfl
theorem aNil_m2(H:qn)(k e:TypeId)(β:Nat):sE (.map k e) (.map β) H=some false:=rfl
theorem aNil_f1(H:qn):sE .func (.pv .rY) H=some true:=rfl
theorem aNil_f2(H:qn)(f:FuncId):sE .func (.pv (.fn f)) H=some false:=rfl
theorem aNil_f3(H:qn)(f:FuncId)(a b:List AV):sE .func (.lr f a b) H=some false:=rfl
def oE{α:Type}(k:Nat)(e:α->List PV)(l:List (Sl α)):List PV:=l.map fun x=> .sl x.nil (zC k x.l) (List.map e x.l)
def nW{α:Type}(ds:List Nat)(k:Nat)(e:α->List PV)(x:Sl (Sl α)):qD:= .jI x.nil ds (oE k e x.l) none
section
variable {α:Type} (k:Nat) (e:α->List PV) (l:List (Sl α))
theorem oE_len:(oE k e l).length=l.length:=by simp[oE]
theorem oE_nil:oE k e []=[]:=rfl
theorem oE_get{i:Int}{x:Sl α}(h:qi l i=some x):(oE k e l)[i.toNat]? =some (.sl x.nil (zC k x.l) (List.map e x.l)):=by simp[oE,ep h]
theorem oE_flat:(List.map (ng k e) l).flatten=oE k e l:=by
 induction l with
 |nil=>rfl
 |cons x l ih=>simp[oE,ng]at ih |-; exact ih
end
theorem Bw{α:Type}{l r:List α}{n:Int}(h:kx l n=some r):r.length=n.toNat:=by
 unfold kx at h;split at h
 ·rename_i hc;cases h;rw[List.length_take];omega
 cases h
theorem Bi{α:Type}{e:α->List PV}(he: ∀x,(e x).all PV.Km=true)(l:List α):rH (List.map e l)=true:=by
 simp[rH];intro x _;simpa using he x
theorem szc_or2{α:Type}(k:Nat)(l:List α):(l.isEmpty=true\/zC k l=k)=True:=by cases l<;>simp[zC]
def pQ{α:Type}(d:α):List (Nat×α)->Nat->α
 |[],_=>d
 |(a,x)::r,k=>if a=k then x else pQ d r k
class ze {β:Type} (o:Option β) (Q:outParam (β->Prop)):Prop where
 ok: ∀r,o=some r->Q r
class zM (G:GP) (f:FuncId) (fi:outParam FI):Prop where
 h:G.fn f=some fi
abbrev qQ(x:Func):FI:=⟨x.ntmps,x.results.toList,x.body.get!⟩
theorem zR{G:GP}{f:FuncId}{x:FI}(h:G.fn f=some x:=by kernel_rfl):zM G f x:=⟨h⟩
abbrev Lp(a b:List Nat):nV:=⟨a,b,[],[],[],0⟩
abbrev Lq(a b p:List Nat):nV:=⟨a,b,p,[],[],0⟩
def xW:PV:= .int .i64 0
def r9:PV:= .str []
def bD:PV:= .bool false
def kq:PV:= .sl true 0 []
def tF:Option TI:=some ⟨1,8,.func,[.rY],false,none⟩
def tS(e:TypeId):Option TI:=some ⟨1,24,.slice e,[.sl true 0 []],false,none⟩
def tP(e:TypeId):Option TI:=some ⟨1,8,.ptr,[.jk],false,some e⟩
def tT(n b:Nat)(fs:List (Nat×Nat×TypeId))(z:List PV):Option TI:=some ⟨n,b,.struct fs,z,true,none⟩
class kY (α:Type) (k:outParam Nat) (e:outParam (α->List PV)):Prop where
 t:True
instance:kY UInt8 1 Zy:=⟨trivial⟩
instance:kY Int 1 zX:=⟨trivial⟩
instance:kY Bool 1 HA:=⟨trivial⟩
instance:kY qa 1 dG:=⟨trivial⟩
instance{α:Type}{k:Nat}{e:α->List PV}[kY α k e]:kY (Sl α) 1 (ng k e):=⟨trivial⟩
instance{α:Type}{k:Nat}{e:α->List PV}[kY α k e]:kY (α×α) (k+k) (Ai e):=⟨trivial⟩
section
variable {α β γ:Type} {r:β} {P:Prop} {a b:Bool} {p q:Option β}
theorem iA(f:a=true->(if b=true then p else q)=some r->P)(g:a=false->q=some r->P)(h:(if (a&&b)=true then p else q)=some r):P:=by
 cases a
 ·exact g rfl (by simpa using h)
 exact f rfl (by simpa using h)
theorem iO(f:a=true->p=some r->P)(g:a=false->(if b=true then p else q)=some r->P)(h:(if (a || b)=true then p else q)=some r):P:=by
 cases a
 ·exact g rfl (by simpa using h)
 exact f rfl (by simpa using h)
theorem bsS{o:Option (α⊕γ)}{k:α⊕γ->Option β}(f: ∀y,o=some (.inl y)->k (.inl y)=some r->P)(g: ∀y,o=some (.inr y)->k (.inr y)=some r->P)(h:o>>=k=some r):P:=by
 obtain⟨x,h1,h2⟩:=Option.bind_eq_some_iff.1 h;cases x with
 |inl y=>exact f y h1 h2
 |inr y=>exact g y h1 h2
theorem bsS3{δ:Type}{o:Option (α⊕(γ⊕δ))}{k:α⊕(γ⊕δ)->Option β}(f: ∀y,o=some (.inl y)->k (.inl y)=some r->P)(g: ∀y,o=some (.inr (.inl y))->k (.inr (.inl y))=some r->P)(g' : ∀y,o=some (.inr (.inr y))->k (.inr (.inr y))=some r->P)(h:o>>=k=some r):P:=
 bsS f (fun y=>by cases y with|inl y=>exact g y|inr y=>exact g' y) h
variable {i lo hi:Int}
theorem bsS4{δ ε:Type}{o:Option (α⊕(γ⊕(δ⊕ε)))}{k:α⊕(γ⊕(δ⊕ε))->Option β}(f: ∀y,o=some (.inl y)->k (.inl y)=some r->P)(g: ∀y,o=some (.inr (.inl y))->k (.inr (.inl y))=some r->P)(g' : ∀y,o=some (.inr (.inr (.inl y)))->k (.inr (.inr (.inl y)))=some r->P)(g'' : ∀y,o=some (.inr (.inr (.inr y)))->k (.inr (.inr (.inr y)))=some r->P)(h:o>>=k=some r):P:=
 bsS3 f g (fun y=>by cases y with|inl y=>exact g' y|inr y=>exact g'' y) h
theorem wgO{l:List (Sl α)}{k:Sl α->Option β}{n:Nat}{e:α->List PV}[kY α n e](f: ∀x,qi l i=some x->(∀ kd,wW (.pv (.int kd i))=some i.toNat)->l[i.toNat]? =some x->(List.map (ng n e) l)[i.toNat]? =some (ng n e x)->(oE n e l)[i.toNat]? =some (.sl x.nil (zC n x.l) (List.map e x.l))->(i.toNat<l.length)=True->l.isEmpty=false->(∀ z,zC z l=z)->k x=some r->P)(h:qi l i>>=k=some r):P:=
 bs (fun x hx=>f x hx (iK hx) (ep hx) (iJ _ hx) (oE_get n e l hx) (Qf hx) (Yo hx) (Qg hx)) h
theorem wgV{l:Sl α}{k:α->Option β}{n:Nat}{e:α->List PV}[kY α n e](f: ∀x,qi l.l i=some x->(∀ kd,wW (.pv (.int kd i))=some i.toNat)->(List.map e l.l)[i.toNat]? =some (e x)->(∀ z,(zC z l.l=z)=True)->(i.toNat<l.l.length)=True->k x=some r->P)(h:qi l.l i>>=k=some r):P:=
 bs (fun x hx=>f x hx (iK hx) (iJ e hx) (SN hx) (Qf hx)) h
variable {l:List α}
theorem wg{k:α->Option β}{n:Nat}{e:α->List PV}[kY α n e](f: ∀x,qi l i=some x->(∀ kd,wW (.pv (.int kd i))=some i.toNat)->l[i.toNat]? =some x->(List.map e l)[i.toNat]? =some (e x)->(i.toNat<l.length)=True->l.isEmpty=false->(∀ z,zC z l=z)->k x=some r->P)(h:qi l i>>=k=some r):P:=
 bs (fun x hx=>f x hx (iK hx) (ep hx) (iJ e hx) (Qf hx) (Yo hx) (Qg hx)) h
variable {k:List α->Option β}
theorem w2{n:Nat}{e:α->List PV}[kY α n e](f: ∀x,kb l lo hi=some x->(∀ kd,wW (.pv (.int kd lo))=some lo.toNat)->(∀ kd,wW (.pv (.int kd hi))=some hi.toNat)->(lo.toNat<=hi.toNat)=True->(hi.toNat<=l.length)=True->(l.take hi.toNat).drop lo.toNat=x->((List.map e l).take hi.toNat).drop lo.toNat=List.map e x->(∀ z,zC (zC z l) x=zC z x)->k x=some r->P)(h:kb l lo hi>>=k=some r):P:=
 bs (fun x hx=>f x hx (RO hx) (RM hx) (RN hx) (Bv hx) (QL hx) (Gs e hx) (BB hx)) h
theorem wF{n:Nat}{e:α->List PV}[kY α n e](f: ∀x,bX l lo=some x->(∀ kd,wW (.pv (.int kd lo))=some lo.toNat)->(lo.toNat<=l.length)=True->l.drop lo.toNat=x->(List.map e l).drop lo.toNat=List.map e x->(∀ z,zC (zC z l) x=zC z x)->k x=some r->P)(h:bX l lo>>=k=some r):P:=
 bs (fun x hx=>f x hx (subF_lo hx) (subF_le hx) (Uo hx) (EW e hx) (L2 hx)) h
theorem wT{n:Nat}{e:α->List PV}[kY α n e](f: ∀x,kx l hi=some x->(∀ kd,wW (.pv (.int kd hi))=some hi.toNat)->(hi.toNat<=l.length)=True->l.take hi.toNat=x->(List.map e l).take hi.toNat=List.map e x->(∀ z,zC (zC z l) x=zC z x)->x.length=hi.toNat->k x=some r->P)(h:kx l hi>>=k=some r):P:=
 bs (fun x hx=>f x hx (subT_hi hx) (OZ hx) (Uq hx) (EX e hx) (L3 hx) (Bw hx)) h
end
abbrev xq{α β:Type}(f:α->Option β)(Q:α->β->Prop):Prop:= ∀p,ze (f p) (Q p)
theorem gP{α β:Type}{f:α->Option β}{Q:α->β->Prop}{F:(α->Option β)->α->Option β}(pc: ∀m:α->β->Prop,(∀ g:α->Option β,(∀ x r,g x=some r->m x r)-> ∀x r,F g x=some r->m x r)-> ∀x r,f x=some r->m x r)
  (h: ∀g:α->Option β,xq g Q-> ∀p r,F g p=some r->Q p r):xq f Q:=fun p=>⟨pc Q (fun g i=>h g fun p=>⟨i p⟩) p⟩
class VV (α:Type) (f:outParam (α->AV)):Prop where
 t:True
instance:VV Int qm:=⟨trivial⟩
instance:VV Bool zt:=⟨trivial⟩
instance:VV qa qL:=⟨trivial⟩
instance{α:Type}{k:Nat}{e:α->List PV}[kY α k e]:VV (Sl α) (v_l k e):=⟨trivial⟩
def vv{α:Type}{f:α->AV}[VV α f](x:α):AV:=f x
theorem lk{α:Type}{f:α->AV}[VV α f](x:α):vv x=f x:=rfl
def bb{α:Type}{k:Nat}{e:α->List PV}[kY α k e](x:α):qD:=b_x (e x)
theorem oR{α:Type}{k:Nat}{e:α->List PV}[kY α k e](x:α):bb x=b_x (e x):=rfl
def br{α:Type}{k:Nat}{e:α->List PV}[kY α k e](l:List α):qD:=b_r k e l
theorem oT{α:Type}{k:Nat}{e:α->List PV}[kY α k e](l:List α):br l=b_r k e l:=rfl
def bm{α:Type}{k:Nat}{e:α->List PV}[kY α k e](l:List α):qD:= .row false k (List.map e l)
theorem oS{α:Type}{k:Nat}{e:α->List PV}[kY α k e](l:List α):bm l= .row false k (List.map e l):=rfl
def nz{α:Type}(b:Bool)(k:Nat)(l:List α):Nat:=match b with|true=>zC k l|false=>k
theorem nz_t{α:Type}(k:Nat)(l:List α):nz true k l=zC k l:=rfl
theorem nz_f{α:Type}(k:Nat)(l:List α):nz false k l=k:=rfl
theorem nz_or{α β:Type}(b:Bool)(k:Nat)(e:α->β)(l:List α):(nz b k l=k\/List.map e l=[])=True:=by cases b<;>cases l<;>simp[nz,zC]
def bN{α:Type}{k:Nat}{e:α->List PV}[kY α k e](x:Sl α):qD:= .row x.nil (nz x.nil k x.l) (List.map e x.l)
theorem bN_eq{α:Type}{k:Nat}{e:α->List PV}[kY α k e](x:Sl α):bN x= .row x.nil (nz x.nil k x.l) (List.map e x.l):=rfl
theorem Ib(k:IntKind){n:Int}(h:0<=n):wW (.pv (.int k n))=some n.toNat:=Ic k h
section
variable {α β:Type} (e:α->β) (l r:List α) (k:Nat)
theorem PF{l r:List α}(h:(l.isEmpty&&r.isEmpty)=false)(k:Nat):zC k (l++r)=k:=app_szc h k
theorem Si:nL []=some []:=rfl
theorem Sj(n:Int)(r:List (List PV)):nL ([.int .u8 n]::r)=(nL r).map fun l=>u8 n::l:=by
 rw[nL];cases nL r<;>rfl
theorem OA(l:List Int):rH (List.map zX l)=true:=Bi (fun _=>rfl) l
theorem OB(n:Nat)(k:IntKind)(z:Int):rH (List.replicate n [PV.int k z])=true:=by
 unfold rH;rw[List.all_eq_true];intro x hx;rw[(List.mem_replicate.1 hx).2];rfl
theorem map_oE{α:Type}(k:Nat)(e:α->List PV)(l:List (Sl α)):(oE k e l).map (fun p=>[p])=List.map (ng k e) l:=by
 unfold oE ng;rw[List.map_map];rfl
structure Fit (l:List α) (n:Nat):Prop where
 h:l.length<=n
theorem take_ge{n:Nat}{l:List α}(h:Fit l n):l.take n=l:=List.take_of_length_le h.h
theorem szc_apC(a t:List α)(c:α)(k:Nat):zC k (a++c::t)=k:=by cases a<;>rfl
theorem szc_apL(a t b:List α)(c:α)(k:Nat):zC k (a++c::t++b)=k:=by cases a<;>rfl
theorem Da(l:List Int)(i:Nat)(k:IntKind)(z:Int):rH ((List.map zX l).set i [PV.int k z])=true:=by
 unfold rH;rw[List.all_eq_true];intro x hx;rcases List.mem_or_eq_of_mem_set hx with hx|rfl
 ·obtain⟨a,_,rfl⟩:=List.mem_map.1 hx;rfl
 rfl
theorem L1(k n:Nat)(kd:IntKind)(z:Int):zC k (List.replicate n [PV.int kd z])=zC k (List.replicate n z):=by cases n<;>rfl
theorem Ny(l:qa)(i:Nat)(c:UInt8):nL ((List.map Zy l).set i [PV.int .u8 (c.toNat:Int)])=some (l.set i c):=by
 have:[PV.int .u8 (c.toNat:Int)]=Zy c:=rfl;rw[this,<- List.map_set,iv]
theorem oE_one{α:Type}(k:Nat)(e:α->List PV)(x:Sl α):oE k e [x]=[PV.sl x.nil (zC k x.l) (List.map e x.l)]:=rfl
theorem oE_setR{α:Type}(k:Nat)(e:α->List PV)(l:List (Sl α))(n:Nat)(x:Sl α):oE k e (l.set n x)=(oE k e l).set n (PV.sl x.nil (zC k x.l) (List.map e x.l)):=by simp[oE,List.map_set]
theorem szcN{α:Type}{l:List α}(h:l.isEmpty=false)(k:Nat):zC k l=k:=by cases l<;>simp_all [zC]
theorem oE_take{α:Type}(k:Nat)(e:α->List PV)(l:List (Sl α))(n:Nat):(oE k e l).take n=oE k e (l.take n):=by simp[oE]
theorem rG2{α:Type}(k:Nat)(e:α->List PV)(l:List α)(te:TI)(β nx:Nat)(c d:List PV)(hk:k=te.size)(hr:qg (l.length+2) te.bytes=true):
  fI te β l.length l.length [c,d] nx (some (.row l.isEmpty (zC k l) (List.map e l)))=some (.row β (List.map e l++[c,d]).length 0 (List.map e l++[c,d]).length,[(β,.row false k (List.map e l++[c,d]))],nx):=Be te β k nx e l c [d] hk hr
theorem rZ(te:TI)(β nx:Nat)(src:List (List PV)):fI te β 0 0 src nx (some (.row true 0 []))=jH te (.row β 0 0 0) src β nx nx:=rfl
theorem fE0(te:TI)(v:AV)(b nx cM:Nat):jH te v [] b nx cM=some (v,[],nx):=rfl
theorem set_id{l:List α}{i:Nat}{x:α}(h:l[i]? =some x):l.set i x=l:=by
 apply List.ext_getElem?;intro j;rw[List.getElem?_set];split
 ·rename_i h2;subst h2;split
  ·exact h.symm
  rename_i h3;rw[List.getElem?_eq_none (by omega)]at h;cases h
 rfl
theorem oS1{α:Type}{k i n:Nat}{e:α->List PV}{l:List (Sl α)}{m:List (List PV)}(h:(oE k e l)[i]? =some (PV.sl false n m)):(oE k e l).set i (PV.sl false n m)=oE k e l:=set_id h
theorem oE_end{α:Type}(k:Nat)(e:α->List PV)(l:List (Sl α))(c d:PV)(t:List PV):(oE k e l++c::t).set l.length d=oE k e l++d::t:=by
 have:l.length=(oE k e l).length:=by simp[oE]
 rw[this];simp
theorem oE_app{α:Type}(k:Nat)(e:α->List PV)(l r:List (Sl α)):oE k e (l++r)=oE k e l++oE k e r:=by simp[oE]
end
end Go.Gm
