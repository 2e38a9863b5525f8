/-
  The machine, part c.
-/
import Derived.Test.YtmllebdamdnhoaaGreatAab
import Derived.Below
import Derived.Deep.Draws
import Derived.Laws.AppendOwn
import Derived.Lib.ItoaNum
import Derived.Lib.LaidTab
import Derived.Lib.SlKeysI
import Derived.LoopN
import Derived.Maps.Own
import Derived.OpenShut
import Derived.Orders
import Derived.ProofKit
import Derived.Sort.Grow
set_option linter.unusedSimpArgs false
set_option linter.unusedVariables false
set_option linter.unusedSectionVars false
namespace Go.Gm
open Go
def ic[zN](P:Program)(f:FuncId)(args:List AV)(H:qn)(r:AV)(H' :qn):Prop:=
 ∀(w:World)(ι:vG)(Im:Nat->Prop)(vs:List Value),qW w H ι Im->args.length=vs.length->(∀(i:Nat) x v,args[i]? =some x->vs[i]? =some v->RA w H ι Im x v)->
  Calls P f ⟨vs⟩ w fun e w' => ∃v ι' jA,e= .returned v/\qW w' H' ι' jA/\w8 w H ι Im w' H' ι' jA/\RA w' H' ι' jA r v
def enters(P:Program)(f:FuncId):Prop:= ∃fn,P.funcs[f]? =some fn/\(fn.name== "runtime.NumGoroutine")=false/\fn.body.isSome=true
structure SoundCall [zN] (P:Program) (O:zS):Prop where
 call: ∀f args H r H',O.call f args H=some (r,H')->enters P f/\ic P f args H r H'
section
variable [zN] {P:Program} {w:World} {H:qn} {ι:vG} {Im:Nat->Prop}
theorem Ue{f:FuncId}(h:enters P f)(args:Array Value):(callFunc f args).run P w= .ok (.enter f args) w:=by
 obtain⟨fn,h1,h2,h3⟩:=h;unfold callFunc;have h3' :fn.body.isNone=false:=by cases hb:fn.body<;>simp[hb]at h3 |-
 simp only[ji,run_program,gm,h1,h2,w9,if_false,h3',Sem.run_pure]
theorem Hz{O:zS}(hO:SoundCall P O)(hi:qW w H ι Im){nx:Nat}{X:Nat->Prop}(xt:Bd X H nx){f:FuncId}{args:List AV}{vs:List Value}
  (hl:args.length=vs.length) (hR: ∀(i:Nat) x v,args[i]? =some x->vs[i]? =some v->RA w H ι Im x v) {e:bY} (hr:fO O f args H nx=some e) (hX: ∀γ,X γ->e.2.2<=γ):
  enters P f/\Calls P f ⟨vs⟩ w fun en w' => ∃v ι' jA,en= .returned v/\qW w' (qS e.2.1 H) ι' jA/\w8 w H ι Im w' (qS e.2.1 H) ι' jA/\RA w' (qS e.2.1 H) ι' jA e.1 v/\
   nx<=e.2.2/\Bd X (qS e.2.1 H) e.2.2:=by
 unfold fO at hr;split at hr
 ·cases hr
 rename_i L H0 iK;split at hr
 ·cases hr
 rename_i v H' sM;split at hr<;>cases hr;rename_i hk;obtain⟨hs,JK,_⟩:=eI List.nodup_nil iK;obtain⟨JG,sG⟩:=hO.call f _ H0 v H' sM;refine⟨JG, ?_⟩;have:=sG w (lM ι L) Im vs (hs.hinv hi) (by rw[su,hl]) (fun i x v h1 h2=>by
  rw[mD]at h1
  simp only[yi]at h1
  obtain⟨y,hy,rfl⟩:=h1
  exact lF _ (hR i y v hy h2) fun β hβ b hb=>hs.HK (JK β (vi hy hβ)) b hb)
 refine this.mono fun en w'⟨u,ι',jA,h1,h2,h3,h4⟩=>?_;obtain⟨b1,b2,b3,b4⟩:=back_ok hs hi xt h2 h3 hk hX;exact⟨u,_,jA,h1,b1,b2,b3 h4,Nat.le_add_right _ _,b4⟩
theorem Act.YZ(a:Act)(d:Option Tmp)(v:Value)(t:Nat):(a.put d v).tmps.getD t undef=if d=some t/\t<a.tmps.size then v else a.tmps.getD t undef:=by
 cases d with
 |none=>simp[Act.put]
 |some d=>
  simp only[Act.put,kX];by_cases h:d=t
  ·subst h;by_cases h2:d<a.tmps.size
   ·simp[h2,Array.getD]
   simp[h2,Array.getD]
  rw[if_neg (fun h' =>h h'.1)];simp only[Array.getD,Array.size_setIfInBounds];split
  ·rw[Array.getInternal_eq_getElem,Array.getInternal_eq_getElem,Array.getElem_setIfInBounds_ne];exact h
  rfl
theorem Act.QA(a:Act)(d:Option Tmp)(v:Value):(a.put d v).tmps.size=a.tmps.size:=by
 cases d<;>simp[Act.put]
theorem Act.put_defers(a:Act)(d:Option Tmp)(v:Value):(a.put d v).defers=a.defers:=by
 cases d<;>rfl
theorem cP(d:Option Tmp)(v:AV)(E:vF)(t:Nat):(cO d v E).get t=if d=some t then v else E.get t:=by
 cases d with
 |none=>simp[cO]
 |some d=>simp[cO,vF.get]
theorem XA{a:Act}{E:vF}{nt:Nat}(hE: ∀t,RA w H ι Im (E.get t) (a.tmps.getD t undef))(bO:nt<=a.tmps.size){d:Option Tmp}(hd: ∀t,d=some t->t<nt)
  {x:AV} {v:Value} (hx:RA w H ι Im x v): ∀t,RA w H ι Im ((cO d x E).get t) ((a.put d v).tmps.getD t undef):=by
 intro t;rw[cP,Act.YZ];by_cases h:d=some t
 ·rw[if_pos h,if_pos ⟨h,Nat.lt_of_lt_of_le (hd t h) bO⟩];exact hx
 rw[if_neg h,if_neg (fun h' =>h h'.1)];exact hE t
theorem GS:RA w H ι Im (.xS []) Go.undef:= .xS [] [] rfl (by simp)
def WH(nt:Nat)(ops:List Oper):Prop:= ∀o∈ops,∀ t,o.dst=some t->t<nt
def dL(w:World)(H:qn)(ι:vG)(Im:Nat->Prop)(nt:Nat)(s:St)(a:Act)(w' :World):Prop:=
 ∃ι' jA,Inv w' a s ι' jA nt/\w8 w H ι Im w' s.heap ι' jA
theorem dL.from{w1:World}{H1:qn}{ι1:vG}{aU:Nat->Prop}{nt:Nat}{s:St}{a:Act}{w' :World}(h:dL w1 H1 ι1 aU nt s a w')(he:w8 w H ι Im w1 H1 ι1 aU):
  dL w H ι Im nt s a w' :=
 let⟨ι',jA,h1,h2⟩:=h
 ⟨ι',jA,h1,he.trans h2⟩
theorem VJ{a:Act}{o:Oper}{t:TypeId}{z:Operand}(DM:o.op= .box t z){u:Value}{w' :World}(h:(Instr.box t (a.eval z)).run P w= .ok u w'):
  (execOp a.eval o).run P w= .ok (.value u) w' :=by
 unfold execOp;simp only[DM];simp[h]
theorem Ik{G:GP}{O:zS}(hG:vL P G)(hO:SoundCall P O){a:Act}{E:vF}{nx:Nat}(hi:qW w H ι Im)(Xj: ∀t,RA w H ι Im (E.get t) (a.tmps.getD t undef))
  {X:Nat->Prop} (xt:Bd X H nx) (o:Oper) {x:AV} {ws:List (Nat×qC)} {cL:Nat} (Qh:ni G O o.op E H nx=some (x,ws,cL)) (hX: ∀γ,X γ->cL<=γ)
  (next:Act->World->Prop) (Q:Exit->Act->World->Prop)
  (ZF: ∀(u:Value)(w' :World)(ι' :vG)(jA:Nat->Prop),qW w' (qS ws H) ι' jA->w8 w H ι Im w' (qS ws H) ι' jA->RA w' (qS ws H) ι' jA x u->
   Bd X (qS ws H) cL->next (a.put o.dst u) w'):
  o.wp P a w next Q:=by
 unfold Oper.wp;cases hc:JR o.op with
 |false=>
  obtain⟨u,w',h1,ι',h2,h3,h4,h5,h6⟩:=aop_ok hG hi xt Xj O o hc Qh hX;rcases h1 with h1|⟨h1,rfl⟩
  ·rw[h1];exact ZF _ _ _ _ h2 h3 h4 h6
  rw[h1];exact ZF _ _ _ _ h2 h3 h4 h6
 |true=>
  by_cases hbx: ∃t z,o.op= .box t z
  ·obtain⟨t,z,DM⟩:=hbx;rw[DM]at Qh;unfold ni at Qh;simp only at Qh;split at Qh;rotate_left
   ·cases Qh
   rename_i hs;unfold aBox at Qh;split at Qh
   ·split at Qh<;>cases Qh;rename_i l hl;obtain⟨u,w',jA,h1,h2,h3,h4⟩:=A4 (P:=P) (t:=t) hi (oX Xj z) hs hl;rw[VJ DM h1];exact ZF _ _ _ _ h2 h3 h4 xt
   cases Qh;obtain⟨u,w',h1,ι',h2,h3,h4,h5,h6⟩:=aBox_ok (P:=P) (t:=t) hi xt (sR hX) (oX Xj z) hs;rw[VJ DM h1];exact ZF _ _ _ _ h2 h3 h4 h6
  obtain⟨fo,args,rI,DM⟩: ∃fo args rI,o.op= .call { callee:= .value fo,args:=args,argTypes:=rI }:=by
   cases ho:o.op<;>simp[JR,ho]at hc
   ·exact absurd ⟨_,_,ho⟩ hbx
   rename_i c;obtain⟨callee,args,rI⟩:=c;cases callee<;>simp at hc;exact⟨_,_,_,rfl⟩
  rw[DM]at Qh;have Te:args.map a.eval=⟨args.toList.map a.eval⟩:=by apply Array.ext'; simp
  have Xn: ∀(f:FuncId)(first cap:Array Value),a.eval fo= .func (.func f) first cap->enters P f->
    (execOp a.eval o).run P w= .ok (.enter f (first++args.map a.eval++cap)) w:=by
   intro f first cap hf JG
   unfold execOp;simp only[DM,resolve,hf,Deferred.ofValue,ji,Sem.run_pure,gm,invoke,Ue JG]
  have DI:=oX Xj fo;have hlist:=TA Xj args.toList;unfold ni at Qh;simp only at Qh;have finish: ∀(f:FuncId)(vs:List Value)(e:bY),(x,ws,cL)=e->(Calls P f ⟨vs⟩ w fun en w' => ∃v ι' jA,en= .returned v/\qW w' (qS e.2.1 H) ι' jA/\w8 w H ι Im w' (qS e.2.1 H) ι' jA/\RA w' (qS e.2.1 H) ι' jA e.1 v/\
    nx<=e.2.2/\Bd X (qS e.2.1 H) e.2.2)->o.upon P a next Q (.ok (.enter f ⟨vs⟩) w):=by
   intro f vs e he sM;subst he;show Calls P f ⟨vs⟩ w _;refine sM.mono fun en w'⟨v,ι',jA,q1,q2,q3,q4,q5,q6⟩=>?_;subst q1;exact ZF _ _ _ _ q2 q3 q4 q6
  split at Qh
  ·rename_i f hf;rw[hf]at DI;have hp:=DI.uB;generalize hv:a.eval fo=vf at hp;cases hp;obtain⟨JG,sM⟩:=Hz hO hi xt (vs:=args.toList.map a.eval) (by simp) hlist Qh hX;rw[Xn f #[] #[] hv JG,Te];have:(#[]++(⟨args.toList.map a.eval⟩:Array Value)++ #[])=⟨args.toList.map a.eval⟩:=by simp
   rw[this];exact finish f _ _ rfl sM
  ·rename_i f fa fb hf;rw[hf]at DI;generalize hv:a.eval fo=vf at DI;cases DI with
   |lp _ _ _ va vb W8 Ti ha hb=>
    obtain⟨JG,sM⟩:=Hz hO hi xt (vs:=va++args.toList.map a.eval++vb) (by simp[W8,Ti]) (fun i z v h1 h2=>by
     rw[List.getElem?_append]at h1 h2
     have hlen:(fa++args.toList.map (ev E)).length=(va++args.toList.map a.eval).length:=by simp[W8]
     rw[<- hlen]at h2
     split at h1
     ·rename_i XE
      rw[if_pos XE]at h2
      rw[List.getElem?_append]at h1 h2
      rw[<- W8]at h2
      split at h1
      ·rename_i Yp
       rw[if_pos Yp]at h2
       exact ha i z v h1 h2
      rename_i Yp
      rw[if_neg Yp]at h2
      exact hlist _ z v h1 h2
     rename_i XE
     rw[if_neg XE]at h2
     exact hb _ z v h1 h2) Qh hX
    rw[Xn f _ _ hv JG,Te];have:((⟨va⟩:Array Value)++(⟨args.toList.map a.eval⟩:Array Value)++(⟨vb⟩:Array Value))=⟨va++args.toList.map a.eval++vb⟩:=by simp
    rw[this];exact finish f _ _ rfl sM
  cases Qh
theorem OT{G:GP}{O:zS}(hG:vL P G)(hO:SoundCall P O){nt:Nat}{a:Act}{s s' :St}(h:Inv w a s ι Im nt)(o:Oper)(hd: ∀t,o.dst=some t->t<nt)
  (hr:QI G O o s=some s') (next:Act->World->Prop) (Q:Exit->Act->World->Prop) (hn: ∀a' w',dL w s.heap ι Im nt s' a' w' ->next a' w'):
  o.wp P a w next Q:=by
 unfold QI at hr;split at hr<;>cases hr;rename_i x ws cL Qh;refine Ik hG hO h.heap h.env (X:=fun _=>False) (fun β b hb=> .inl (h.nx β b hb)) o Qh (fun _ h=>h.elim) next Q fun u w' ι' jA h1 h2 h3 h4=>?_
 refine hn _ _ ⟨ι',jA,⟨h1, ?_,fun β b hb=>(h4 β b hb).resolve_right id,by rw[Act.QA];exact h.size,by rw[Act.put_defers];exact h.defers⟩,h2⟩;exact XA (fun t=>(h.env t).mono h.heap h2) h.size hd h3
theorem dL.post{nt:Nat}{s:St}{a:Act}{w' :World}(h:dL w H ι Im nt s a w')(l:List RW):dL w H ι Im nt (mg l s) a w' :=by
 obtain⟨ι1,aU,h1,e1⟩:=h;obtain⟨ι2,Uz,h2,e2⟩:=Xy l h1;exact⟨ι2,Uz,h2,e1.trans e2⟩
end
section
variable [zN] {P:Program} {w:World} {H:qn} {ι:vG} {Im:Nat->Prop}
theorem JC{ops:Array Oper}{a:Act}{E:vF}(hE: ∀t,RA w H ι Im (E.get t) (a.tmps.getD t undef)){o:Oper}{b:Bool}(h:vM ops.toList o E=some b):
  Region.wanted o (yielded ops a.tmps)=b:=by
 unfold vM at h;unfold Region.wanted;split at h
 ·rename_i hg;rw[hg];cases h;rfl
 rename_i j want hg;rw[hg];simp only;split at h
 ·rename_i oj hoj;have hoj' :ops[j]? =some oj:=by rw[<- Array.getElem?_toList];exact hoj
  split at h
  ·rename_i d hd;have hyd:yielded ops a.tmps j=match a.tmps[d]? with|some (.bool b)=>some b|_=>none:=by
    simp only[yielded,hoj',z7,hd];rfl
   rw[hyd];have hr:=hE d;have hgd:a.tmps.getD d undef=(a.tmps[d]?).getD undef:=by
    simp[Array.getD,getElem?_def];split<;>simp[*]
   rw[hgd]at hr;split at h
   ·rename_i b0 ZK;cases h;rw[ZK]at hr;have hp:=hr.uB;cases ht:a.tmps[d]? with
    |none=>rw[ht]at hp;cases hp
    |some v=>
     rw[ht]at hp;simp only[Option.getD_some]at hp;cases hp;simp only;cases b0<;>cases want<;>rfl
   ·rename_i ZK;cases h;rw[ZK]at hr;cases ht:a.tmps[d]? with
    |none=>rfl
    |some v=>
     rw[ht]at hr;simp only[Option.getD_some]at hr;cases hr with
     |xS _ vs=>rfl
   cases h
  rename_i hd;cases h;have:yielded ops a.tmps j=none:=by simp[yielded,hoj',hd]
  rw[this];rfl
 rename_i hoj;cases h;have hoj' :ops[j]? =none:=by rw[<- Array.getElem?_toList];exact hoj
 have:yielded ops a.tmps j=none:=by simp[yielded,hoj']
 rw[this];rfl
theorem OG{a:Act}{s:St}{nt:Nat}(h:Inv w a s ι Im nt)(d:Option Tmp)(hd: ∀t,d=some t->t<nt):
  Inv w (a.put d undef) { s with env:=cO d (.xS []) s.env } ι Im nt where
 heap:=h.heap
 env:=XA h.env h.size hd GS
 nx:=h.nx
 size:=by rw[Act.QA];exact h.size
 defers:=by rw[Act.put_defers];exact h.defers
theorem Y7{G:GP}{O:zS}(hG:vL P G)(hO:SoundCall P O){nt:Nat}(ops:Array Oper)(hd:WH nt ops.toList)(Q:Exit->Act->World->Prop):
  ∀(rest:List Oper)(k:Nat),ops.toList.drop k=rest-> ∀{w:World}{ι:vG}{Im:Nat->Prop}{a:Act}{s s' :St},Inv w a s ι Im nt->QY G O ops.toList rest s=some s' ->
   (∀ a' w',dL w s.heap ι Im nt s' a' w' ->Q .normal a' w')->wpOps P ops Q (List.range' k rest.length) a w
 |[],k,_,w,ι,Im,a,s,s',h,hr,hq=>by
  cases hr;exact hq a w ⟨ι,Im,h,w8.refl _ _ _ _⟩
 |o::rest,k,nW,w,ι,Im,a,s,s',h,hr,hq=>by
  have hk:ops.toList[k]? =some o:=by
   have:=congrArg (fun l=>l[0]?) nW;simpa using this
  have QM:ops[k]? =some o:=by rw[<- Array.getElem?_toList];exact hk
  have Eg:ops.toList.drop (k+1)=rest:=by
   have:=congrArg (fun l=>l.drop 1) nW;simpa[List.drop_drop]using this
  have hdo: ∀t,o.dst=some t->t<nt:=hd o (qX hk);simp only[List.length_cons,List.range'_succ,wpOps,QM];simp only[QY]at hr;split at hr
  ·rename_i hg;rw[JC h.env hg,if_pos rfl];obtain⟨aU,h1,e1⟩:=mM (GA G o.op s.env) h;split at hr;rotate_left
   ·cases hr
   rename_i s1 nh;refine .inl (OT hG hO h1 o hdo nh _ _ fun a' w' dI=>?_);obtain⟨ι2,Uz,h2,e2⟩:=dI;exact Y7 hG hO ops hd Q rest (k+1) Eg h2 hr fun a'' w'' h3=>hq a'' w'' (h3.from (e1.trans e2))
  ·rename_i hg;rw[JC h.env hg,if_neg (by simp)];exact Y7 hG hO ops hd Q rest (k+1) Eg (OG h o.dst hdo) hr fun a'' w'' h3=>hq a'' w'' h3
  cases hr
theorem CZ{G:GP}{O:zS}(hG:vL P G)(hO:SoundCall P O){nt:Nat}(id:Nat)(ops:Array Oper)(hd:WH nt ops.toList)
  {a:Act} {s s' :St} (h:Inv w a s ι Im nt) (hr:QY G O ops.toList ops.toList s=some s') (Q:Exit->Act->World->Prop)
  (hq: ∀a' w',dL w s.heap ι Im nt s' a' w' ->Q .normal a' w'):(Code.region id ops false).wp P Q a w:=by
 refine wp_region ?_;have:=Y7 hG hO ops hd Q ops.toList 0 (by simp) h hr hq;rw[List.range_eq_range'];simpa using this
end
def xm(L:List Nat)(H H' :qn):Prop:= ∀γ∈L,H'.get γ=H.get γ
section
variable {H H' :qn}
theorem xm.app{A B:List Nat}(h:xm (A++B) H H'):xm A H H' /\xm B H H' :=
 ⟨fun γ hγ=>h γ (by simp[hγ]),fun γ hγ=>h γ (by simp[hγ])⟩
theorem Hl{ti:TI}{a:AV}(h:xm a.refs H H'):oO ti a H' =oO ti a H:=by
 cases a<;>simp only[oO]
 ·rename_i p;cases p<;>rfl
 ·rename_i β o;rw[h β (by simp[AV.refs])]
 rename_i β v i o;rw[h β (by simp[AV.refs])]
theorem Y5{ti:TI}{a v:AV}(h:xm a.refs H H'):e8 ti a v H' =e8 ti a v H:=by
 cases a<;>simp only[e8]
 ·rename_i β o;rw[h β (by simp[AV.refs])]
 rename_i β v i o;rw[h β (by simp[AV.refs])]
theorem fI{v:AV}(h:xm v.refs H H'):vT v H' =vT v H:=by
 cases v with
 |pv p=>cases p<;>first|rfl|(rename_i b _ _;cases b<;>rfl)
 |row β zF off n=>simp only[vT];rw[h β (by simp[AV.refs])]
 |_=>rfl
theorem QG{v:AV}(h:xm v.refs H H'):dE v H' =dE v H:=by
 cases v with
 |row β zF off n=>simp only[dE];rw[h β (by simp[AV.refs])]
 |_=>rfl
theorem XW{te:TI}{s x:AV}{nx:Nat}(h1:xm s.refs H H')(h2:xm x.refs H H'):bx te s x H' nx=bx te s x H nx:=by
 unfold bx;rw[QG h2];cases s with
 |row β zF off n=>simp only;rw[h1 β (by simp[AV.refs])]
 |pv p=>cases p<;>first|rfl|(rename_i b _ _;cases b<;>rfl)
 |_=>rfl
theorem KP{te:TI}{s x:AV}{nx:Nat}(h1:xm s.refs H H')(h2:xm x.refs H H'):ua te s x H' nx=ua te s x H nx:=by
 unfold ua;rw[fI h2,XW h1 h2];cases s with
 |row β zF off n=>simp only;rw[h1 β (by simp[AV.refs])]
 |pv p=>cases p<;>first|rfl|(rename_i b _ _;cases b<;>rfl)
 |_=>rfl
theorem Hg{te:TI}{s x:AV}{nx:Nat}(h1:xm s.refs H H')(h2:xm x.refs H H'):Q2 te s x H' nx=Q2 te s x H nx:=by
 unfold Q2;rw[fI h2];cases s with
 |row β zF off n=>simp only;rw[h1 β (by simp[AV.refs])]
 |pv p=>cases p<;>first|rfl|(rename_i b _ _;cases b<;>rfl)
 |_=>rfl
theorem QS{td:TD}{aR:TypeId->Option TI}{x i:AV}(h:xm x.refs H H'):mI td aR x i H' =mI td aR x i H:=by
 unfold mI;cases x with
 |row β zF off n=>
  simp only;rw[h β (by simp[AV.refs])]
 |pv p=>cases p<;>first|rfl|(rename_i b _ _;cases b<;>rfl)
 |_=>rfl
theorem Y4{td:TD}{aR:TypeId->Option TI}{ρ:Operand->AV}{x:AV}{lo hi mx:Option Operand}(h:xm x.refs H H'):ft td aR ρ x lo hi mx H' =ft td aR ρ x lo hi mx H:=by
 unfold ft;cases x with
 |row β zF off n=>
  simp only;rw[h β (by simp[AV.refs])]
 |pv p=>cases p<;>first|rfl|(rename_i b _ _;cases b<;>rfl)
 |_=>rfl
theorem J7{td:TD}{v:AV}(h:xm v.refs H H'):sD td v H' =sD td v H:=by
 unfold sD;cases v with
 |row β zF off n=>
  simp only;rw[h β (by simp[AV.refs])]
 |pv p=>cases p<;>first|rfl|(rename_i b _ _;cases b<;>rfl)
 |_=>rfl
theorem S6{aR:TypeId->Option TI}{ti:TI}{x y:AV}(h1:xm x.refs H H')(h2:xm y.refs H H'):Ln aR ti x y H' =Ln aR ti x y H:=by
 unfold Ln;split
 ·rfl
 ·rfl
 rw[J7 h1,J7 h2]
theorem Ng{aR:TypeId->Option TI}{op:BinOp}{ti:TI}{x y:AV}(h1:xm x.refs H H')(h2:xm y.refs H H'):Nf aR op ti x y H' =Nf aR op ti x y H:=by
 have e:Ln aR ti x y H' =Ln aR ti x y H:=S6 h1 h2;unfold Nf;split
 ·rfl
 ·rfl
 split
 ·rfl
 ·rfl
 rw[e]
theorem J3{src dst:TD}{dte:TypeId->Option TI}{x:AV}{nx:Nat}(h:xm x.refs H H'):pH src dst dte x H' nx=pH src dst dte x H nx:=by
 have e:vT x H' =vT x H:=fI h;unfold pH;split<;>first|rfl|(rw [e])
theorem Xa{G:GP}{t:TypeId}{x:AV}{nx:Nat}(h:xm x.refs H H'):mU G t x H' nx=mU G t x H nx:=rfl
theorem J6{tk te:TI}{m k:AV}{ok:Bool}(h:xm m.refs H H'):ij tk te m k ok H' =ij tk te m k ok H:=rfl
theorem J8{tk:TI}{m k v:AV}(h:xm m.refs H H'):cy tk m k v H' =cy tk m k v H:=rfl
theorem Hi{m:AV}{k:PV}(h:xm m.refs H H'):J5 m k H' =J5 m k H:=by
 cases m with
 |map β=>simp only[J5];rw[h β (by simp[AV.refs])]
 |pv p=>cases p<;>first|rfl|(rename_i b _ _;cases b<;>rfl)
 |_=>rfl
theorem KW{tk te:TI}{m k:AV}{ok:Bool}(h:xm m.refs H H'):dM tk te m k ok H' =dM tk te m k ok H:=by
 cases k with
 |pv p=>simp only[dM,Hi h]
 |_=>rfl
theorem oP{tk:TI}{m k:AV}{v:PV}(h:xm m.refs H H'):pI tk m k v H' =pI tk m k v H:=by
 cases m<;>first|rfl|(cases k<;>first|rfl|(simp only[pI];rw[h _ (by simp[AV.refs])]))
theorem Y3{tk te:TI}{m k:AV}(h:xm m.refs H H'):ig tk te m k H' =ig tk te m k H:=rfl
theorem Q3{m st:AV}{v:PV}(h:xm m.refs H H'):gj m st v H' =gj m st v H:=rfl
theorem KS{tk:TI}{m k:AV}(h:xm m.refs H H'):rB tk m k H' =rB tk m k H:=by
 cases m<;>first|rfl|(cases k<;>first|rfl|(simp only[rB];rw[h _ (by simp[AV.refs])]))|(rename_i p;cases p<;>first|rfl|(cases k<;>rfl))
theorem Nk{x:AV}(h:xm x.refs H H'):Hk x H' =Hk x H:=by
 cases x with
 |row β zF off n=>simp only[Hk];rw[h β (by simp[AV.refs])]
 |map β=>simp only[Hk];rw[h β (by simp[AV.refs])]
 |pv p=>cases p<;>first|rfl|(rename_i b _ _;cases b<;>rfl)
 |_=>rfl
theorem XY{e:TypeId}{te:TI}{s x:AV}{nx:Nat}(h1:xm s.refs H H')(h2:xm x.refs H H'):uU e te s x H' nx=uU e te s x H nx:=rfl
theorem XX{te:TI}{s x:AV}{nx:Nat}(h1:xm s.refs H H')(h2:xm x.refs H H'):bA te s x H' nx=bA te s x H nx:=by
 unfold bA;rw[QG h2];cases s with
 |row β zF off n=>
  simp only;rw[h1 β (by simp[AV.refs])]
 |_=>rfl
theorem QT{x:AV}{nx:Nat}(h:xm x.refs H H'):mJ x H' nx=mJ x H nx:=rfl
theorem oF{el:TypeId}{p x:AV}{nx:Nat}(h:xm p.refs H H'):uw el p x H' nx=uw el p x H nx:=rfl
theorem J1{G:GP}{b:Builtin}{rI:List TypeId}{args:List AV}{nx:Nat}(h:xm (AV.refs.mb args) H H'):pG G b rI args H' nx=pG G b rI args H nx:=by
 unfold pG;split
 ·have h1:=(xm.app h).1;simp only[Nk h1]
 ·have h1:=(xm.app h).1;simp only[QT h1]
 ·have h1:=(xm.app h).1;simp only[oF h1]
 ·rfl
 ·rfl
 ·rename_i s x;have h1:xm s.refs H H' :=fun γ hγ=>h γ (by simp[AV.refs.mb,hγ]);have h2:xm x.refs H H' :=fun γ hγ=>h γ (by simp[AV.refs.mb,hγ]);simp only[KP h1 h2,XY h1 h2,XX h1 h2]
 ·rename_i s x;have h1:xm s.refs H H' :=fun γ hγ=>h γ (by simp[AV.refs.mb,hγ]);have h2:xm x.refs H H' :=fun γ hγ=>h γ (by simp[AV.refs.mb,hγ]);simp only[Hg h1 h2]
 ·rename_i m k;have h1:xm m.refs H H' :=fun γ hγ=>h γ (by simp[AV.refs.mb,hγ]);simp only[KS h1]
 rfl
theorem iQ: ∀(n:Nat)(r d:List Nat),xm (bE H n r d) H H' ->bE H' n r d=bE H n r d
 |0,_,_,_=>rfl
 |n+1,[],d,_=>rfl
 |n+1,β::r,d,h=>by
  simp only[bE]at h |-;by_cases c:JY d β=true
  ·rw[if_pos c]at h |-;rw[if_pos c];exact iQ n r d h
  rw[if_neg c]at h |-;rw[if_neg c];have sE:β∈bE H n (r++(tB H β).refs) (d++[β]):=by
   have key: ∀(n:Nat)(r d:List Nat)(x:Nat),x∈d->x∈bE H n r d:=by
    intro n;induction n with
    |zero=>intro r d x hx;exact hx
    |succ n ih=>
     intro r d x hx;cases r with
     |nil=>exact hx
     |cons β r=>
      simp only[bE];split
      ·exact ih _ _ _ hx
      exact ih _ _ _ (by simp[hx])
   exact key _ _ _ _ (by simp)
  have hb:tB H' β=tB H β:=by simp only[tB,h β sE]
  rw[hb];exact iQ n _ _ h
theorem iv{L:List Nat}: ∀(l:List Nat),xm l H H' ->mn H' L l=mn H L l
 |[],_=>rfl
 |β::r,h=>by
  simp only[mn];rw[h β (by simp),iv r fun γ hγ=>h γ (by simp[hγ])]
theorem Kb{g:Nat->Nat}: ∀(i:Nat)(l:List Nat),xm l H H' ->pick H' g i l=pick H g i l
 |_,[],_=>rfl
 |i,β::r,h=>by
  simp only[pick];rw[Kb (i+1) r fun γ hγ=>h γ (by simp[hγ])];have:tB H' β=tB H β:=by simp only[tB,h β (by simp)]
  rw[this]
theorem Wt{roots:List Nat}(h:xm (bE H 400 roots []) H H'):tu H' [] roots=tu H [] roots:=by
 cases roots with
 |nil=>rfl
 |cons β r=>
  have h' :xm (bE H 400 ((β::r)++([]:List Nat).flatMap fun β=>(tB H β).refs) []) H H' :=by simpa using h
  have e:=iQ 400 _ _ h';simp only[List.flatMap_nil]at e h';simp only[tu,List.flatMap_nil,e,iv _ h',Kb 0 _ h']
theorem Zx{O:zS}{f:FuncId}{args:List AV}{nx:Nat}(h:xm (bE H 400 (AV.refs.mb args) []) H H'):fO O f args H' nx=fO O f args H nx:=by
 unfold fO;rw[Wt h]
theorem GM{ps:List (Nat×Operand)}{E E' :vF}(h: ∀x∈ps.map (·.2),ev E' x=ev E x): ∀x∈ps,ev E' x.2=ev E x.2:=fun x hx=>h x.2 (List.mem_map.2 ⟨x,hx,rfl⟩)
theorem HS{z6:Nat->Option (Nat×Nat)}{E E' :vF}: ∀(l:List (Nat×Operand))(c:List AV),(∀ x∈l,ev E' x.2=ev E x.2)->iD z6 (ev E') l c=iD z6 (ev E) l c
 |[],_,_=>rfl
 |(i,x)::r,c,h=>by
  have hx:ev E' x=ev E x:=h (i,x) (by simp);simp only[iD,hx];split
  ·split
   ·exact HS r _ fun y hy=>h y (by simp[hy])
   rfl
  rfl
theorem Jt{size:Nat}{E E' :vF}: ∀(l:List (Nat×Operand))(c:List (List PV)),(∀ x∈l,ev E' x.2=ev E x.2)->pK size (ev E') l c=pK size (ev E) l c
 |[],_,_=>rfl
 |(i,x)::r,c,h=>by
  have hx:ev E' x=ev E x:=h (i,x) (by simp);simp only[pK,hx];split
  ·split
   ·exact Jt r _ fun y hy=>h y (by simp[hy])
   rfl
  rfl
theorem ZC{size:Nat}{E E' :vF}: ∀(l:List (Nat×Operand))(c:List (List AV)),(∀ x∈l,ev E' x.2=ev E x.2)->mo size (ev E') l c=mo size (ev E) l c
 |[],_,_=>rfl
 |(i,x)::r,c,h=>by
  have hx:ev E' x=ev E x:=h (i,x) (by simp);simp only[mo,hx];split
  ·exact ZC r _ fun y hy=>h y (by simp[hy])
  rfl
theorem Mm{E E' :vF}(l:List Operand)(h: ∀x∈l,ev E' x=ev E x):l.map (ev E')=l.map (ev E):=List.map_congr_left h
theorem Sb{G:GP}{O:zS}{o:Op}{E E' :vF}{nx:Nat}(hE: ∀x∈o.operands,ev E' x=ev E x)(hH:xm (mF o E H) H H'):ni G O o E' H' nx=ni G O o E H nx:=by
 cases o with
 |move x=>simp only[ni,hE x (by simp[Op.operands])]
 |assign x=>simp only[ni,hE x (by simp[Op.operands])]
 |pick c a b=>simp only[ni,hE c (by simp[Op.operands]),hE a (by simp[Op.operands]),hE b (by simp[Op.operands])]
 |alloc t=>rfl
 |box t x=>simp only[ni,hE x (by simp[Op.operands])]
 |build t ps=>
  have h:=GM (ps:=ps.toList) (E:=E) (E' :=E') (fun x hx=>hE x (by simpa[Op.operands]using hx));simp only[ni,XZ,HS _ _ h]
 |buildSlice t n ps=>
  have h:=GM (ps:=ps.toList) (E:=E) (E' :=E') (fun x hx=>hE x (by simpa[Op.operands]using hx));simp only[ni,Jt _ _ h,ZC _ _ h]
 |load t a=>simp only[ni,hE a (by simp[Op.operands]),Hl hH]
 |store t a x=>simp only[ni,hE a (by simp[Op.operands]),hE x (by simp[Op.operands]),Y5 hH]
 |nilCheck x=>simp only[ni,hE x (by simp[Op.operands])]
 |binOp op t x y z=>
  obtain⟨h1,h2⟩:=xm.app hH;simp only[ni,hE x (by simp[Op.operands]),hE y (by simp[Op.operands]),Ng h1 h2]
 |unOp op t x=>simp only[ni,hE x (by simp[Op.operands])]
 |convert s d x=>simp only[ni,hE x (by simp[Op.operands]),J3 hH,Xa hH]
 |makeFunc fn a b=>
  cases fn with
  |func f=>
   have h1:=Mm a.toList (E:=E) (E' :=E') (fun x hx=>hE x (by simp[Op.operands]at hx |-; exact .inl hx));have h2:=Mm b.toList (E:=E) (E' :=E') (fun x hx=>hE x (by simp[Op.operands]at hx |-; exact .inr hx));simp only[ni];generalize a.toList=la at h1;generalize b.toList=lb at h2;cases la<;>cases lb<;>first|rfl|(simp only[h1,h2])
  |_=>rfl
 |makeMap t r=>cases r<;>rfl
 |makeSlice t l c=>simp only[ni,hE l (by simp[Op.operands]),hE c (by simp[Op.operands])]
 |slice t x lo hi mx=>
  have hx:=hE x (by simp[Op.operands]);have h1: ∀d,jU (ev E') d lo=jU (ev E) d lo:=fun d=>by cases lo with|none=>rfl|some y=>simp only[jU,hE y (by simp[Op.operands])]
  have h2: ∀d,jU (ev E') d hi=jU (ev E) d hi:=fun d=>by cases hi with|none=>rfl|some y=>simp only[jU,hE y (by simp[Op.operands])]
  have h3: ∀d,jU (ev E') d mx=jU (ev E) d mx:=fun d=>by cases mx with|none=>rfl|some y=>simp only[jU,hE y (by simp[Op.operands])]
  have key: ∀td aR H,ft td aR (ev E') (ev E x) lo hi mx H=ft td aR (ev E) (ev E x) lo hi mx H:=by
   intro td aR H;unfold ft;simp only[h1,h2,h3]
  simp only[ni,hx,key,Y4 hH]
 |fieldAddr t x f=>simp only[ni,hE x (by simp[Op.operands])]
 |field t x f=>simp only[ni,hE x (by simp[Op.operands])]
 |indexAddr t x i=>simp only[ni,hE x (by simp[Op.operands]),hE i (by simp[Op.operands]),QS hH]
 |index t x i=>simp only[ni,hE x (by simp[Op.operands]),hE i (by simp[Op.operands])]
 |lookup t m k ok=>simp only[ni,hE m (by simp[Op.operands]),hE k (by simp[Op.operands]),KW hH,J6 hH]
 |mapUpdate t m k x=>simp only[ni,ik,hE m (by simp[Op.operands]),hE k (by simp[Op.operands]),hE x (by simp[Op.operands]),oP hH,J8 hH]
 |insert t m k x=>simp only[ni,hE m (by simp[Op.operands]),hE k (by simp[Op.operands]),hE x (by simp[Op.operands]),oP hH]
 |mapEntry t m k=>simp only[ni,hE m (by simp[Op.operands]),hE k (by simp[Op.operands]),Y3 hH]
 |entryStore t m st x=>simp only[ni,hE m (by simp[Op.operands]),hE st (by simp[Op.operands]),hE x (by simp[Op.operands]),Q3 hH]
 |extract t i=>simp only[ni,hE t (by simp[Op.operands])]
 |call c=>
  obtain⟨callee,args,rI⟩:=c;have ha:=Mm args.toList (E:=E) (E' :=E') (fun x hx=>hE x (by simp[Op.operands,Call.operands];right;simpa using hx));cases callee with
  |builtin b=>simp only[ni,ha,J1 hH]
  |value f=>
   have hf:=hE f (by simp[Op.operands,Call.operands]);simp only[ni,hf,ha];simp only[mF]at hH;split
   ·rename_i g hg;rw[hg]at hH;exact Zx hH
   ·rename_i g a b hg;rw[hg]at hH;exact Zx hH
   rfl
  |_=>rfl
 |_=>rfl
end
structure Rc where
 E:vF
 H:qn
 nx:Nat
 on:Bool
 v:AV
 ws:List (Nat×qC)
 cL:Nat
 rd:List Nat
def Rc.keys(c:Rc):List Nat:=c.ws.map (·.1)
mutual
theorem PV.oq: ∀{x y:PV},PV.ka x y=true->x=y:=by
 intro x y h;cases x<;>cases y<;>first|(simp [PV.ka]at h;done)|(simp only[PV.ka,zB,beq_iff_eq,decide_eq_true_eq]at h)
 all_goals first|rfl|(rw [h];done)|(rw [h.1,h.2];done)|(rw [PV.sy h];done)|(rw [h.1.1,h.1.2,PV.ry h.2];done)
theorem PV.sy: ∀{x y:List PV},PV.dC x y=true->x=y:=by
 intro x y h;cases x<;>cases y<;>first|(simp [PV.dC]at h;done)|rfl|skip
 simp only[PV.dC,zB]at h;rw[PV.oq h.1,PV.sy h.2]
theorem PV.ry: ∀{x y:List (List PV)},PV.ru x y=true->x=y:=by
 intro x y h;cases x<;>cases y<;>first|(simp [PV.ru]at h;done)|rfl|skip
 simp only[PV.ru,zB]at h;rw[PV.sy h.1,PV.ry h.2]
end
theorem AV.oq{x y:AV}(h:AV.ka x y=true):x=y:=by
 cases x<;>cases y<;>first|(simp [AV.ka]at h;done)|rfl|(simp only[AV.ka,zB,decide_eq_true_eq]at h)
 all_goals first|(rw [PV.oq h];done)|(obtain ⟨⟨⟨h1,h2⟩,h3⟩,h4⟩:=h;subst h1 h2 h3 h4;rfl)|(obtain ⟨h1,h2⟩:=h;subst h1 h2;rfl)|(subst h;rfl)
theorem AV.sy: ∀{x y:List AV},AV.dC x y=true->x=y
 |[],[],_=>rfl
 |[],_::_,h=>by simp[AV.dC]at h
 |_::_,[],h=>by simp[AV.dC]at h
 |_::_,_::_,h=>by
  simp only[AV.dC,zB]at h;rw[AV.oq h.1,AV.sy h.2]
theorem AV.ry: ∀{x y:List (List AV)},AV.ru x y=true->x=y
 |[],[],_=>rfl
 |[],_::_,h=>by simp[AV.ru]at h
 |_::_,[],h=>by simp[AV.ru]at h
 |_::_,_::_,h=>by
  simp only[AV.ru,zB]at h;rw[AV.sy h.1,AV.ry h.2]
theorem qC.oq{x y:qC}(h:qC.ka x y=true):x=y:=by
 cases x<;>cases y<;>first|(simp [qC.ka]at h;done)|rfl|(simp only[qC.ka,zB,decide_eq_true_eq,beq_iff_eq]at h)
 all_goals first|(rw [AV.sy h];done)|(rw [h.1,AV.sy h.2];done)|(rw [h.1,AV.ry h.2];done)|(rw [h.1.1,h.1.2,PV.ry h.2];done)|(rw [h.1.1.1,h.1.1.2,h.1.2,PV.ry h.2];done)
theorem V5{H:qn}{β:Nat}{b:qC}(h:Mf H β b=true):H.get β=some b:=by
 unfold Mf at h;split at h
 ·rename_i c hc;rw[hc,qC.oq h]
 cases h
theorem KC(rd:List Nat): ∀(ws:List (Nat×qC))(H:qn)(x:Nat×qC),x∈trim rd H ws->x∈ws
 |[],H,x,h=>by simp[trim]at h
 |(β,b)::r,H,x,h=>by
  rw[trim]at h;split at h
  ·exact List.mem_cons_of_mem _ (KC rd r H x h)
  rcases List.mem_cons.1 h with rfl|h
  ·exact List.mem_cons_self
  exact List.mem_cons_of_mem _ (KC rd r _ x h)
theorem KA(rd:List Nat): ∀(ws:List (Nat×qC))(H:qn)(γ:Nat),γ∈ws.map (·.1)->γ∈(trim rd H ws).map (·.1)\/ ∃b,H.get γ=some b
 |[],H,γ,h=>by simp at h
 |(β,b)::r,H,γ,h=>by
  rw[trim];simp only[List.map_cons,List.mem_cons]at h;split
  ·rename_i hc;simp only[zB]at hc;rcases h with rfl|h
   ·exact .inr ⟨_,V5 hc.2⟩
   exact KA rd r H γ h
  rcases h with rfl|h
  ·exact .inl (by simp)
  rcases KA rd r (H.put β b) γ h with h|⟨c,h⟩
  ·exact .inl (by simp[h])
  rw[qn.qZ]at h;split at h
  ·rename_i e;exact .inl (by simp[e])
  exact .inr ⟨c,h⟩
theorem dU: ∀(ws:List (Nat×qC))(H H' :qn)(γ:Nat),γ∈ws.map (·.1)->(qS ws H).get γ=(qS ws H').get γ
 |[],_,_,_,h=>by simp at h
 |(i,b)::r,H,H',γ,h=>by
  simp only[qS];by_cases hr:γ∈r.map (·.1)
  ·exact dU r _ _ γ hr
  have hi:γ=i:=by
   simp only[List.map_cons,List.mem_cons]at h;exact h.resolve_right hr
  have jv: ∀x∈r,x.1≠γ:=fun x hx e=>hr (by rw[<- e];exact List.mem_map.2 ⟨x,hx,rfl⟩);rw[jB r _ γ jv,jB r _ γ jv,qn.qZ,qn.qZ,if_pos hi,if_pos hi]
theorem KB(rd:List Nat): ∀(ws:List (Nat×qC))(H H' :qn),xm rd H H' -> ∀γ,(qS (trim rd H ws) H').get γ=(qS ws H').get γ
 |[],_,_,_,_=>rfl
 |(β,b)::r,H,H',h,γ=>by
  rw[trim];split
  ·rename_i hc;simp only[zB]at hc;have h1:=V5 hc.2;have h2:H'.get β=some b:=by rw[h β ((iM rd β).1 hc.1),h1]
   rw[KB rd r H H' h γ];simp only[qS];by_cases hr:γ∈r.map (·.1)
   ·exact dU r _ _ γ hr
   have jv: ∀x∈r,x.1≠γ:=fun x hx e=>hr (by rw[<- e];exact List.mem_map.2 ⟨x,hx,rfl⟩);rw[jB r _ γ jv,jB r _ γ jv,qn.qZ];split
   ·rename_i e;rw[e,h2]
   rfl
  simp only[qS];refine KB rd r (H.put β b) (H'.put β b) (fun x hx=>?_) γ;rw[qn.qZ,qn.qZ,h x hx]
theorem PF{tm:Bool}{rd:List Nat}{ws:List (Nat×qC)}{H H' :qn}(h:xm rd H H')(γ:Nat):(qS (fK tm rd H ws) H').get γ=(qS ws H').get γ:=by
 cases tm
 ·rfl
 exact KB rd ws H H' h γ
theorem PG{tm:Bool}{rd:List Nat}{ws:List (Nat×qC)}{H:qn}{x:Nat×qC}(h:x∈fK tm rd H ws):x∈ws:=by
 cases tm
 ·exact h
 exact KC rd ws H x h
theorem PE{tm:Bool}{rd:List Nat}{ws:List (Nat×qC)}{H:qn}{γ:Nat}(h:γ∈ws.map (·.1)):γ∈(fK tm rd H ws).map (·.1)\/ ∃b,H.get γ=some b:=by
 cases tm
 ·exact .inl h
 exact KA rd ws H γ h
def bu(G:GP)(O:zS)(all:List Oper)(tm:Bool):List Oper->List Rc->St->St->Prop
 |[],[],s,s' =>s' =s
 |o::r,c::cs,s,s' =>c.E=s.env/\c.H=s.heap/\c.nx=s.nx/\vM all o s.env=some c.on/\
   (c.on=true->(∃ wf,ni G O o.op s.env s.heap s.nx=some (c.v,wf,c.cL)/\c.ws=fK tm c.rd s.heap wf)/\c.rd=mF o.op s.env s.heap)/\
   (c.on=false->c.v= .xS []/\c.ws=[]/\c.cL=s.nx/\c.rd=[])/\bu G O all tm r cs ⟨cO o.dst c.v s.env,qS c.ws s.heap,c.cL⟩ s'
 |_,_,_,_=>False
def V7:Nat->List Rc->List (Nat×List Nat×List Nat)->List (Nat×List Nat×List Nat)
 |_,[],log=>log
 |i,c::cs,log=>V7 (i+1) cs (if c.on=true then(i,c.rd,c.keys)::log else log)
theorem iq{G:GP}{O:zS}(all:List Oper){tm:Bool}: ∀{l:List Oper}{i:Nat}{s s' :St}{log:List (Nat×List Nat×List Nat)},cA G O all tm i l s log=some s' ->
  ∃cs,bu G O all tm l cs s s' /\nk (wb [] all) (V7 i cs log)=true
 |[],i,s,s',log,h=>by
  simp only[cA]at h;split at h<;>cases h;rename_i hc;exact⟨[],rfl,hc⟩
 |o::r,i,s,s',log,h=>by
  simp only[cA]at h;split at h
  ·rename_i hg;split at h
   ·rename_i v ws nx Qh;obtain⟨cs,h1,h2⟩:=iq all h;exact⟨⟨s.env,s.heap,s.nx,true,v,fK tm (mF o.op s.env s.heap) s.heap ws,nx,mF o.op s.env s.heap⟩::cs,⟨rfl,rfl,rfl,hg,fun _=>⟨⟨ws,Qh,rfl⟩,rfl⟩,(fun h=>by cases h),h1⟩,h2⟩
   cases h
  ·rename_i hg;obtain⟨cs,h1,h2⟩:=iq all h;exact⟨⟨s.env,s.heap,s.nx,false,.xS [],[],s.nx,[]⟩::cs,⟨rfl,rfl,rfl,hg,(fun h=>by cases h),fun _=>⟨rfl,rfl,rfl,rfl⟩,h1⟩,h2⟩
  cases h
theorem bu.len{G:GP}{O:zS}{all:List Oper}{tm:Bool}: ∀{l:List Oper}{cs:List Rc}{s s' :St},bu G O all tm l cs s s' ->cs.length=l.length
 |[],[],_,_,_=>rfl
 |[],_::_,_,_,h=>h.elim
 |_::_,[],_,_,h=>h.elim
 |_::r,_::cs,_,_,h=>by simp[bu.len h.2.2.2.2.2.2]
theorem Q7: ∀{l L:List Nat},Xf l L=true-> ∀x∈l,x∉L
 |[],L,_,x,hx=>by simp at hx
 |y::r,L,h,x,hx=>by
  simp only[Xf,zB,Bool.not_eq_true']at h;rcases List.mem_cons.1 hx with rfl|hx
  ·intro hc;rw[(iM L x).2 hc]at h;simp at h
  exact Q7 h.2 x hx
def FN(a b:Rc):Prop:=(∀ x∈a.keys,x∉b.rd)/\(∀ x∈a.keys,x∉b.keys)/\ ∀x∈a.rd,x∉b.keys
theorem oU{ms:List Nat}{j:Nat}{rd wr:List Nat}: ∀{l:List (Nat×List Nat×List Nat)},o9 ms j rd wr l=true-> ∀e∈l,ordered ms e.1 j=true\/(Xf e.2.2 rd=true/\Xf e.2.2 wr=true/\Xf e.2.1 wr=true)
 |[],_,e,he=>by simp at he
 |(i,rdi,wri)::r,h,e,he=>by
  simp only[o9,zB,Bool.or_eq_true]at h;rcases List.mem_cons.1 he with rfl|he
  ·rcases h.1 with h1|⟨⟨h1,h2⟩,h3⟩
   ·exact .inl h1
   exact .inr ⟨h1,h2,h3⟩
  exact oU h.2 e he
theorem V8{ms:List Nat}: ∀(cs:List Rc)(i:Nat)(log:List (Nat×List Nat×List Nat)),nk ms (V7 i cs log)=true->
  nk ms log=true/\ ∀(b:Nat)(cb:Rc),cs[b]? =some cb->cb.on=true->
   (∀ e∈log,ordered ms e.1 (i+b)=true\/(Xf e.2.2 cb.rd=true/\Xf e.2.2 cb.keys=true/\Xf e.2.1 cb.keys=true))/\
   ∀(a:Nat)(ca:Rc),a<b->cs[a]? =some ca->ca.on=true->ordered ms (i+a) (i+b)=true\/FN ca cb
 |[],i,log,h=>⟨h,by simp⟩
 |c::cs,i,log,h=>by
  simp only[V7]at h;obtain⟨h1,h2⟩:=V8 cs (i+1) _ h;have hlog:nk ms log=true:=by
   split at h1
   ·simp only[nk,zB]at h1;exact h1.2
   exact h1
  refine⟨hlog,fun b cb hb SX=>?_⟩;cases b with
  |zero=>
   simp only[List.getElem?_cons_zero,kX]at hb;subst hb;rw[if_pos SX]at h1;simp only[nk,zB]at h1;exact⟨fun e he=>oU h1.1 e he,fun a ca ha=>by omega⟩
  |succ b=>
   simp only[List.getElem?_cons_succ]at hb;obtain⟨k1,k2⟩:=h2 b cb hb SX;rw[show i+1+b=i+(b+1)from by omega]at k1 k2;refine⟨fun e he=>k1 e (by split<;>simp[he]),fun a ca ha hca hcon=>?_⟩;cases a with
   |zero=>
    simp only[List.getElem?_cons_zero,kX]at hca;subst hca;rcases k1 (i,c.rd,c.keys) (by rw[if_pos hcon];simp)with h|⟨q1,q2,q3⟩
    ·exact .inl h
    exact .inr ⟨Q7 q1,Q7 q2,Q7 q3⟩
   |succ a=>
    simp only[List.getElem?_cons_succ]at hca;have:=k2 a ca (by omega) hca hcon;rwa[show i+1+a=i+(a+1)from by omega]at this
theorem Mn{ms:List Nat}{o:Oper}{i:Nat}(h:(YE ms o).testBit i=true): ∃e∈o.after,Region.binds .any e=true/\(i=e.on\/(ms.getD e.on 0).testBit i=true):=by
 have key: ∀(l:List Edge)(m:Nat),(l.foldl (fun m e=>if Region.binds .any e=true then m ||| (1 <<< e.on) ||| ms.getD e.on 0 else m) m).testBit i=true->
   m.testBit i=true\/ ∃e∈l,Region.binds .any e=true/\(i=e.on\/(ms.getD e.on 0).testBit i=true):=by
  intro l;induction l with
  |nil=>intro m h;exact .inl h
  |cons e l ih=>
   intro m h;simp only[List.foldl_cons]at h;rcases ih _ h with h|⟨e',h1,h2,h3⟩
   ·split at h
    ·rename_i hb;rw[Nat.testBit_or,Nat.testBit_or,Nat.one_shiftLeft,Nat.testBit_two_pow]at h;simp only[Bool.or_eq_true,decide_eq_true_eq]at h;rcases h with (h|h)|h
     ·exact .inl h
     ·exact .inr ⟨e,by simp,hb,.inl h.symm⟩
     exact .inr ⟨e,by simp,hb,.inr h⟩
    exact .inl h
   exact .inr ⟨e',by simp[h1],h2,h3⟩
 rcases key o.after.toList 0 h with h|⟨e,h1,h2⟩
 ·simp at h
 exact⟨e,by simpa using h1,h2⟩
theorem fE: ∀(os:List Oper)(ms:List Nat)(k:Nat),k<ms.length->(wb ms os).getD k 0=ms.getD k 0
 |[],ms,k,_=>rfl
 |o::r,ms,k,h=>by
  simp only[wb];rw[fE r _ k (by simp;omega)];simp[List.getElem?_append_left h]
theorem Qr: ∀(os:List Oper)(ms:List Nat)(j:Nat)(o:Oper),os[j]? =some o-> ∃ms' :List Nat,ms'.length=ms.length+j/\(wb ms os).getD (ms.length+j) 0=YE ms' o/\
  ∀k,k<ms.length+j->ms'.getD k 0=(wb ms os).getD k 0
 |[],ms,j,o,h=>by simp at h
 |o' ::r,ms,j,o,h=>by
  simp only[wb];cases j with
  |zero=>
   simp only[List.getElem?_cons_zero,kX]at h;subst h;refine⟨ms,by simp, ?_,fun k hk=>?_⟩
   ·rw[fE r _ _ (by simp)];simp
   rw[fE r _ k (by simp;omega)];simp at hk;simp[List.getElem?_append_left hk]
  |succ j=>
   simp only[List.getElem?_cons_succ]at h;obtain⟨ms',h1,h2,h3⟩:=Qr r (ms++[YE ms o']) j o h;simp only[List.length_append,List.length_singleton]at h1 h2 h3;rw[show ms.length+1+j=ms.length+(j+1)from by omega]at h1 h2 h3;exact⟨ms',h1,h2,h3⟩
def AM(os:List Oper):Bool:=os.zipIdx.all fun x=>x.1.after.toList.all fun e=> !Region.binds .any e || decide (e.on<x.2)
def T3(os:List Oper)(ms:List Nat):Bool:=(List.range os.length).all fun j=>(List.range j).all fun i=>ordered ms i j || match os[i]?,os[j]? with
 |some x,some y=>x.apart os.toArray y
 |_,_=>true
def Z2(os:List Oper):Bool:=AM os&&T3 os (wb [] os)
theorem HW{os:List Oper}(h:AM os=true){j:Nat}{o:Oper}(ho:os[j]? =some o){e:Edge}(he:e∈o.after)(hb:Region.binds .any e=true):e.on<j:=by
 have h1:=List.all_eq_true.1 h (o,j) (by rw[List.mem_zipIdx_iff_getElem?];exact ho);have h2:=List.all_eq_true.1 h1 e (by simpa using he);simpa[hb]using h2
theorem apart_spec{os:List Oper}{ms:List Nat}(h:T3 os ms=true){i j:Nat}{x y:Oper}(DJ:i<j)(hx:os[i]? =some x)(hy:os[j]? =some y):ordered ms i j=true\/x.apart os.toArray y=true:=by
 have hj:j<os.length:=(qF hy).1;have h1:=List.all_eq_true.1 (List.all_eq_true.1 h j (by simpa using hj)) i (by simpa using DJ);simpa[hx,hy]using h1
def N3(os:List Oper)(D:Nat->Bool):Prop:= ∀j o,os[j]? =some o->D j=true-> ∀e∈o.after,Region.binds .any e=true->D e.on=true
theorem iw{os:List Oper}(hf:AM os=true){D:Nat->Bool}(hD:N3 os D): ∀(j:Nat)(o:Oper),os[j]? =some o->
  (∀ e∈o.after,Region.binds .any e=true->D e.on=true)-> ∀i,ordered (wb [] os) i j=true->D i=true:=by
 intro j;induction j using Nat.strongRecOn with
 |_ j ih=>
  intro o ho Wa i hi;obtain⟨ms',h1,h2,h3⟩:=Qr os [] j o ho;simp only[List.length_nil,Nat.zero_add]at h1 h2 h3;unfold ordered at hi;rw[h2]at hi;obtain⟨e,e1,e2,e3⟩:=Mn hi;have xB:=HW hf ho e1 e2;have hDe:=Wa e e1 e2;rcases e3 with rfl|e3
  ·exact hDe
  rw[h3 _ xB]at e3;have Yr:e.on<os.length:=Nat.lt_trans xB (qF ho).1;exact ih e.on xB os[e.on] (kU Yr) (fun e' W6 xQ=>hD e.on _ (kU Yr) hDe e' W6 xQ) i e3
def mX:List Oper->List Rc->Nat->(Nat->Bool)->vF->vF
 |o::os,c::cs,i,D,E=>mX os cs (i+1) D (if D i=true then cO o.dst c.v E else E)
 |_,_,_,_,E=>E
def kV:List Rc->Nat->(Nat->Bool)->qn->qn
 |c::cs,i,D,H=>kV cs (i+1) D (if D i=true then qS c.ws H else H)
 |[],_,_,H=>H
theorem rQ{t:Nat}{D D' :Nat->Bool}: ∀(os:List Oper)(cs:List Rc)(i:Nat)(E E' :vF),(∀ k o,os[k]? =some o->o.dst=some t->D (i+k)=D' (i+k))->E.get t=E'.get t->
  (mX os cs i D E).get t=(mX os cs i D' E').get t
 |[],_,_,_,_,_,h=>by simpa[mX]using h
 |_::_,[],_,_,_,_,h=>by simpa[mX]using h
 |o::os,c::cs,i,E,E',hD,h=>by
  simp only[mX];refine rQ os cs (i+1) _ _ (fun k o' ho' hd' =>?_) ?_
  ·have:=hD (k+1) o' (by simpa using ho') hd';rwa[show i+1+k=i+(k+1)from by omega]
  by_cases hd:o.dst=some t
  ·have:=hD 0 o rfl hd;simp only[Nat.add_zero]at this;rw[this];split
   ·rw[cP,cP,if_pos hd,if_pos hd]
   exact h
  have e1:(if D i=true then cO o.dst c.v E else E).get t=E.get t:=by
   split
   ·rw[cP,if_neg hd]
   rfl
  have e2:(if D' i=true then cO o.dst c.v E' else E').get t=E'.get t:=by
   split
   ·rw[cP,if_neg hd]
   rfl
  rw[e1,e2,h]
theorem ed: ∀(os:List Oper)(cs:List Rc)(i:Nat)(D:Nat->Bool)(E:vF),(∀ k,i<=k->D k=false)->mX os cs i D E=E
 |[],_,_,_,_,_=>rfl
 |_::_,[],_,_,_,_=>rfl
 |o::os,c::cs,i,D,E,h=>by
  simp only[mX,h i (xJ _),w9,if_false];exact ed os cs (i+1) D E fun k hk=>h k (by omega)
theorem np: ∀(cs:List Rc)(i:Nat)(D:Nat->Bool)(H:qn),(∀ k,i<=k->D k=false)->kV cs i D H=H
 |[],_,_,_,_=>rfl
 |c::cs,i,D,H,h=>by
  simp only[kV,h i (xJ _),w9,if_false];exact np cs (i+1) D H fun k hk=>h k (by omega)
theorem Jq{t:Nat}{D:Nat->Bool}: ∀(os:List Oper)(cs:List Rc)(i:Nat)(E:vF)(j:Nat)(o:Oper)(c:Rc),os[j]? =some o->cs[j]? =some c->o.dst=some t->D (i+j)=true->
  (∀ k o',j<k->os[k]? =some o' ->o'.dst=some t->D (i+k)=false)->(mX os cs i D E).get t=c.v
 |[],_,_,_,j,o,c,ho,_,_,_,_=>by simp at ho
 |_::_,[],_,_,j,o,c,_,hc,_,_,_=>by simp at hc
 |o' ::os,c' ::cs,i,E,j,o,c,ho,hc,hd,hD,hl=>by
  simp only[mX];cases j with
  |zero=>
   simp only[List.getElem?_cons_zero,kX]at ho hc;subst ho hc;simp only[Nat.add_zero]at hD;rw[hD];simp only[if_true];rw[rQ (D' :=fun _=>false) os cs (i+1) _ (cO o'.dst c'.v E) (fun k o2 h2 DH=>?_) rfl,ed _ _ _ _ _ (fun _ _=>rfl),cP,if_pos hd];have:=hl (k+1) o2 (by omega) (by simpa using h2) DH;rwa[show i+1+k=i+(k+1)from by omega]
  |succ j=>
   simp only[List.getElem?_cons_succ]at ho hc;refine Jq os cs (i+1) _ j o c ho hc hd (by rwa[show i+1+j=i+(j+1)from by omega]) fun k o2 hk h2 DH=>?_;have:=hl (k+1) o2 (by omega) (by simpa using h2) DH;rwa[show i+1+k=i+(k+1)from by omega]
theorem YY(ws:List (Nat×qC)){H H' :qn}{γ:Nat}(h:H.get γ=H'.get γ):(qS ws H).get γ=(qS ws H').get γ:=by
 by_cases hr:γ∈ws.map (·.1)
 ·exact dU ws H H' γ hr
 have jv: ∀x∈ws,x.1≠γ:=fun x hx e=>hr (by rw[<- e];exact List.mem_map.2 ⟨x,hx,rfl⟩);rw[jB ws _ γ jv,jB ws _ γ jv,h]
theorem nM{γ:Nat}{D D' :Nat->Bool}: ∀(cs:List Rc)(i:Nat)(H H' :qn),(∀ k c,cs[k]? =some c->γ∈c.keys->D (i+k)=D' (i+k))->H.get γ=H'.get γ->
  (kV cs i D H).get γ=(kV cs i D' H').get γ
 |[],_,_,_,_,h=>by simpa[kV]using h
 |c::cs,i,H,H',hD,h=>by
  simp only[kV];refine nM cs (i+1) _ _ (fun k c' UA QM=>?_) ?_
  ·have:=hD (k+1) c' (by simpa using UA) QM;rwa[show i+1+k=i+(k+1)from by omega]
  by_cases hd:γ∈c.keys
  ·have:=hD 0 c rfl hd;simp only[Nat.add_zero]at this;rw[this];split
   ·exact YY _ h
   exact h
  have jv: ∀x∈c.ws,x.1≠γ:=fun x hx e=>hd (by rw[<- e];exact List.mem_map.2 ⟨x,hx,rfl⟩);have e1:(if D i=true then qS c.ws H else H).get γ=H.get γ:=by
   split
   ·exact jB _ _ _ jv
   rfl
  have e2:(if D' i=true then qS c.ws H' else H').get γ=H'.get γ:=by
   split
   ·exact jB _ _ _ jv
   rfl
  rw[e1,e2,h]
theorem ZL{γ:Nat}{D:Nat->Bool}: ∀(cs:List Rc)(i:Nat)(H:qn)(j:Nat)(c:Rc),cs[j]? =some c->γ∈c.keys->D (i+j)=true->
  (∀ k c',j<k->cs[k]? =some c' ->γ∈c'.keys->D (i+k)=false)-> ∀H',(kV cs i D H).get γ=(qS c.ws H').get γ
 |[],_,_,j,c,hc,_,_,_,_=>by simp at hc
 |c' ::cs,i,H,j,c,hc,hd,hD,hl,H' =>by
  simp only[kV];cases j with
  |zero=>
   simp only[List.getElem?_cons_zero,kX]at hc;subst hc;simp only[Nat.add_zero]at hD;rw[hD];simp only[if_true];rw[nM (D' :=fun _=>false) cs (i+1) _ (qS c'.ws H) (fun k c2 h2 DH=>?_) rfl,np _ _ _ _ (fun _ _=>rfl)]
   ·exact dU _ _ _ _ hd
   have:=hl (k+1) c2 (by omega) (by simpa using h2) DH;rwa[show i+1+k=i+(k+1)from by omega]
  |succ j=>
   simp only[List.getElem?_cons_succ]at hc;refine ZL cs (i+1) _ j c hc hd (by rwa[show i+1+j=i+(j+1)from by omega]) (fun k c2 hk h2 DH=>?_) H';have:=hl (k+1) c2 (by omega) (by simpa using h2) DH;rwa[show i+1+k=i+(k+1)from by omega]
def wH(H:qn)(nx:Nat)(e:bY):Prop:=
 (∀ β b,H.get β=some b->β<nx)->nx<=e.2.2/\(∀ x∈e.2.1,x.1<e.2.2)/\ ∀γ,nx<=γ->γ<e.2.2->γ∈e.2.1.map (·.1)
section
variable {H:qn} {nx:Nat}
theorem keys_nil(v:AV):wH H nx (v,[],nx):=fun _=>⟨xJ _,by simp,fun γ h1 h2=>by simp at h2;omega⟩
theorem pM(v:AV)(b:qC):wH H nx (v,[(nx,b)],nx+1):=fun _=>⟨Nat.le_succ _,by simp,fun γ h1 h2=>by simp at h2 |-; omega⟩
theorem cE(v:AV){β:Nat}{b b' :qC}(h:H.get β=some b):wH H nx (v,[(β,b')],nx):=fun hn=>⟨xJ _,by simpa using hn β b h,fun γ h1 h2=>by simp at h2;omega⟩
theorem rS{v:Option AV}{e:bY}(h:gf v nx=some e):wH H nx e:=by
 unfold gf at h;split at h<;>cases h;exact keys_nil _
theorem Tw{v:Option PV}{e:bY}(h:ZY v nx=some e):wH H nx e:=by
 unfold ZY at h;split at h<;>cases h;exact keys_nil _
def oN(H:qn)(ws:List (Nat×qC)):Prop:=ws=[]\/ ∃β b b',H.get β=some b/\ws=[(β,b')]
theorem Yw{ws:List (Nat×qC)}(v:AV)(h:oN H ws):wH H nx (v,ws,nx):=by
 rcases h with rfl|⟨β,b,b',hb,rfl⟩
 ·exact keys_nil _
 exact cE _ hb
theorem fV{ws:Option (List (Nat×qC))}{e:bY}(h:nf ws nx=some e)(hw: ∀l,ws=some l->oN H l):wH H nx e:=by
 unfold nf at h;split at h<;>cases h;exact Yw _ (hw _ rfl)
theorem Kw{sz β zF i o size:Nat}{vs:List AV}{es:List (List AV)}{l:List (Nat×qC)}{b:qC}(hb:H.get β=some b)(h:lL sz β zF i o size vs es=some l):oN H l:=by
 unfold lL at h;cases h
theorem Pz{β zF i o size:Nat}{v:AV}{ds:List Nat}{es:List PV}{i5:Option (Nat×Nat×Nat)}{l:List (Nat×qC)}{b:qC}(hb:H.get β=some b)(h:Zp β zF i o size v ds es i5=some l):oN H l:=by
 unfold Zp at h;split at h
 ·split at h<;>cases h;exact .inr ⟨_,_,_,hb,rfl⟩
 cases h
theorem Nm{ti:TI}{a v:AV}{l:List (Nat×qC)}(h:e8 ti a v H=some l):oN H l:=by
 unfold e8 at h;split at h;rotate_left
 ·cases h
 split at h
 ·split at h
  ·rename_i hb;split at h<;>cases h;exact .inr ⟨_,_,_,hb,rfl⟩
  cases h
 ·split at h
  ·split at h
   ·rename_i hb;split at h
    ·split at h
     ·split at h<;>cases h;exact .inr ⟨_,_,_,hb,rfl⟩
     cases h
    cases h
   ·rename_i hb;exact Kw hb h
   cases h
  split at h
  ·rename_i hb;exact Kw hb h
  ·rename_i hb;exact Pz hb h
  cases h
 cases h
theorem Y6{tk:TI}{m k v:AV}{l:List (Nat×qC)}(h:cy tk m k v H=some l):oN H l:=by
 unfold cy at h;cases h
theorem KZ{G:GP}{t:TypeId}{m k x:AV}{e:bY}(h:ik G t m k x H nx=some e):wH H nx e:=by
 unfold ik at h;split at h
 ·split at h
  ·exact fV h fun l hl=>Y6 hl
  cases h
 cases h
theorem J2{G:GP}{t:TypeId}{x:AV}{e:bY}(h:mU G t x H nx=some e):wH H nx e:=by
 unfold mU at h;cases h
theorem Zt{tk:TI}{m k:AV}{v:PV}{l:List (Nat×qC)}(h:pI tk m k v H=some l):oN H l:=by
 unfold pI at h;split at h
 ·split at h
  ·split at h
   ·rename_i hb;split at h<;>cases h<;>exact .inr ⟨_,_,_,hb,rfl⟩
   cases h
  cases h
 cases h
theorem Nj{tk te:TI}{m k:AV}{v:AV}{l:List (Nat×qC)}(h:ig tk te m k H=some (v,l)):oN H l:=by
 unfold ig at h;cases h
theorem Xb{m st:AV}{v:PV}{l:List (Nat×qC)}(h:gj m st v H=some l):oN H l:=by
 unfold gj at h;cases h
theorem Hh{tk:TI}{m k:AV}{l:List (Nat×qC)}(h:rB tk m k H=some l):oN H l:=by
 unfold rB at h;split at h
 ·split at h<;>cases h;exact .inl rfl
 ·split at h
  ·split at h
   ·rename_i hb;split at h<;>cases h<;>exact .inr ⟨_,_,_,hb,rfl⟩
   cases h
  cases h
 cases h
theorem Qb{te:TI}{s:AV}{src:List (List PV)}{e:bY}(h:jH te s src nx nx (nx+1)=some e):wH H nx e:=by
 unfold jH at h;split at h
 ·cases h;exact keys_nil _
 split at h<;>cases h;exact pM _ _
theorem Yl{te:TI}{s:AV}{src:List (List PV)}{β:Nat}{b:qC}{e:bY}(hb:H.get β=some b)(h:jH te s src β nx nx=some e):wH H nx e:=by
 unfold jH at h;split at h
 ·cases h;exact keys_nil _
 split at h<;>cases h;exact cE _ hb
theorem NP{te:TI}{src:List (List AV)}{e:bY}(h:ej te src nx (nx+1)=some e):wH H nx e:=by
 unfold ej at h;split at h
 ·cases h
 split at h<;>cases h;exact pM _ _
theorem NQ{te:TI}{src:List (List AV)}{β:Nat}{b:qC}{e:bY}(hb:H.get β=some b)(h:ej te src β nx=some e):wH H nx e:=by
 unfold ej at h;split at h
 ·cases h
 split at h<;>cases h;exact cE _ hb
theorem KM{te:TI}{s x:AV}{e:bY}(h:bx te s x H nx=some e):wH H nx e:=by
 unfold bx at h;split at h
 ·cases h
 split at h;rotate_left
 ·cases h
 split at h
 ·exact NP h
 ·split at h
  ·rename_i hb;split at h
   ·exact NQ hb h
   cases h
  ·rename_i hb;split at h<;>cases h;exact cE _ hb
  cases h
 cases h
theorem Y1{te:TI}{s x:AV}{e:bY}(h:ua te s x H nx=some e):wH H nx e:=by
 unfold ua at h;split at h
 ·exact KM h
 split at h;rotate_left
 ·cases h
 split at h
 ·exact Qb h
 ·exact Qb h
 ·split at h
  ·rename_i hb;split at h
   ·exact Yl hb h
   cases h
  ·rename_i hb;split at h
   ·split at h<;>cases h<;>exact cE _ hb
   cases h
  cases h
 cases h
theorem Nh{te:TI}{s x:AV}{e:bY}(h:Q2 te s x H nx=some e):wH H nx e:=by
 unfold Q2 at h;split at h
 ·cases h
 split at h
 ·split at h
  ·rename_i hb;split at h<;>cases h;exact cE _ hb
  cases h
 cases h
theorem KR{src dst:TD}{dte:TypeId->Option TI}{x:AV}{e:bY}(h:pH src dst dte x H nx=some e):wH H nx e:=by
 unfold pH at h;split at h
 ·cases h;exact keys_nil _
 ·cases h;exact keys_nil _
 ·split at h
  ·split at h
   ·split at h
    ·split at h
     ·split at h<;>cases h;exact keys_nil _
     cases h
    cases h
   cases h
  cases h
 ·split at h
  ·split at h
   ·cases h;exact pM _ _
   cases h
  cases h
 cases h
theorem KO{e0:TypeId}{te:TI}{s x:AV}{e:bY}(h:uU e0 te s x H nx=some e):wH H nx e:=by
 unfold uU at h;cases h
theorem KN{te:TI}{s x:AV}{e:bY}(h:bA te s x H nx=some e):wH H nx e:=by
 unfold bA at h;split at h;rotate_left
 ·cases h
 split at h;rotate_left
 ·cases h
 split at h;rotate_left
 ·cases h
 rename_i hb;split at h<;>cases h;exact cE _ hb
theorem GF{e0:TypeId}{te:TI}{s x:AV}{e:bY}(h:Ly (ua te s x H nx) (Ly (uU e0 te s x H nx) (bA te s x H nx))=some e):wH H nx e:=by
 cases ha:ua te s x H nx with
 |some r=>
  rw[ha]at h;cases h;exact Y1 ha
 |none=>
  rw[ha]at h;cases hb:uU e0 te s x H nx with
  |some r=>
   rw[hb]at h;cases h;exact KO hb
  |none=>
   rw[hb]at h;exact KN h
theorem Xc{x:AV}{e:bY}(h:mJ x H nx=some e):wH H nx e:=by
 unfold mJ at h;cases h
theorem lk{el:TypeId}{p x:AV}{e:bY}(h:uw el p x H nx=some e):wH H nx e:=by
 unfold uw at h;cases h
theorem Y0{G:GP}{t:TypeId}{ti:TI}{e:bY}(h:Q1 G t ti nx=some e):wH H nx e:=by
 unfold Q1 at h;cases h
theorem KQ{G:GP}{b:Builtin}{rI:List TypeId}{args:List AV}{e:bY}(h:pG G b rI args H nx=some e):wH H nx e:=by
 unfold pG at h;split at h
 ·split at h
  ·split at h
   ·split at h<;>cases h;exact keys_nil _
   cases h
  cases h
 ·exact Xc h
 ·split at h;rotate_left
  ·cases h
  split at h;rotate_left
  ·cases h
  split at h;rotate_left
  ·cases h
  split at h;rotate_left
  ·cases h
  exact lk h
 ·split at h<;>cases h;exact keys_nil _
 ·split at h<;>cases h;exact keys_nil _
 ·split at h
  ·split at h
   ·split at h
    ·exact GF h
    cases h
   ·split at h
    ·exact GF h
    cases h
   cases h
  cases h
 ·split at h
  ·split at h
   ·split at h
    ·exact Nh h
    cases h
   cases h
  cases h
 ·split at h
  ·split at h
   ·split at h
    ·split at h<;>cases h;rename_i hd;exact Yw _ (Hh hd)
    cases h
   cases h
  cases h
 cases h
theorem ZZ(g:Nat->Nat): ∀(H:qn)(i j:Nat),yV i H=true->i<=j->j<i+H.length->g j∈(vj g H).map (·.1)
 |[],i,j,_,h1,h2=>by simp at h2;omega
 |(k,b)::r,i,j,hk,h1,h2=>by
  simp only[yV,zB,decide_eq_true_eq]at hk;obtain⟨rfl,hk⟩:=hk;simp only[vj,List.map_cons,List.mem_cons];by_cases h:j=k
  ·exact .inl (by rw[h])
  exact .inr (ZZ g r (k+1) j hk (by omega) (by simp only[List.length_cons]at h2;omega))
theorem Jg{O:zS}{f:FuncId}{args:List AV}{e:bY}(h:fO O f args H nx=some e):wH H nx e:=by
 unfold fO at h;split at h
 ·cases h
 rename_i L H0 iK;split at h
 ·cases h
 rename_i v H' sM;split at h<;>cases h;rename_i hk;intro hn;obtain⟨hs,_,_⟩:=eI List.nodup_nil iK;refine⟨Nat.le_add_right _ _,fun x hx=>?_,fun γ h1 h2=>?_⟩
 ·obtain⟨j,_,q2,q3⟩:=sU _ H' 0 hk x hx;rw[q3];by_cases hj:j<L.length
  ·have a1:L[j]? =some L[j]:=by simp[hj]
   obtain⟨b1,Yo,_⟩:=hs.has _ (qX a1);have:=hn _ b1 Yo;have e1:xO L nx j=L[j]:=by simp[xO,a1]
   simp only[e1];omega
  have e1:xO L nx j=nx+(j-L.length):=by simp[xO,List.getElem?_eq_none (by omega:L.length<=j)]
  simp only[e1];omega
 simp only at h2;have:=ZZ (xO L nx) H' 0 (L.length+(γ-nx)) hk (Nat.zero_le _) (by omega);have e1:xO L nx (L.length+(γ-nx))=γ:=by
  simp[xO,List.getElem?_eq_none (by omega:L.length<=L.length+(γ-nx))];omega
 rwa[e1]at this
theorem Ab{G:GP}{O:zS}{o:Op}{E:vF}{e:bY}(h:ni G O o E H nx=some e):wH H nx e:=by
 cases o with
 |move x=>cases h;exact keys_nil _
 |assign x=>cases h;exact keys_nil _
 |pick c a b=>
  simp only[ni]at h;split at h<;>cases h;exact keys_nil _
 |alloc t=>
  simp only[ni]at h;split at h;rotate_left
  ·cases h
  split at h
  ·exact Y0 h
  cases h;exact pM _ _
 |box t x=>
  simp only[ni]at h;split at h
  ·unfold aBox at h;split at h
   ·split at h<;>cases h;exact keys_nil _
   cases h;exact pM _ _
  cases h
 |build t ps=>
  simp only[ni]at h;split at h
  ·exact rS h
  cases h
 |buildSlice t n ps=>
  simp only[ni]at h;split at h
  ·split at h
   ·split at h
    ·split at h
     ·split at h
      ·split at h<;>cases h;exact pM _ _
      split at h<;>cases h;exact pM _ _
     cases h
    cases h
   cases h
  cases h
 |load t a=>
  simp only[ni]at h;split at h
  ·exact rS h
  cases h
 |store t a x=>
  simp only[ni]at h;split at h
  ·exact fV h fun l hl=>Nm hl
  cases h
 |nilCheck x=>
  simp only[ni]at h;split at h<;>cases h<;>exact keys_nil _
 |binOp op t x y z=>
  simp only[ni]at h;split at h
  ·exact Tw h
  cases h
 |unOp op t x=>exact Tw h
 |convert s d x=>
  simp only[ni]at h;split at h
  ·exact J2 h
  split at h
  ·exact KR h
  cases h
 |makeFunc fn a b=>
  cases fn with
  |func f=>cases h;exact keys_nil _
  |_=>cases h
 |makeMap t r=>
  cases r with
  |none=>
   simp only[ni]at h;cases h;exact pM _ _
  |some _=>cases h
 |makeSlice t l c=>
  simp only[ni]at h;split at h
  ·unfold tN at h;split at h
   ·split at h
    ·split at h<;>cases h;exact pM _ _
    cases h
   cases h
  cases h
 |slice t x lo hi mx=>
  simp only[ni]at h;split at h
  ·exact rS h
  cases h
 |fieldAddr t x f=>
  simp only[ni]at h;split at h
  ·exact rS h
  cases h
 |field t x f=>
  simp only[ni]at h;split at h
  ·split at h
   ·split at h
    ·split at h
     ·exact rS h
     cases h
    cases h
   cases h
  cases h
 |indexAddr t x i=>
  simp only[ni]at h;split at h
  ·exact rS h
  cases h
 |index t x i=>
  simp only[ni]at h;split at h
  ·split at h
   ·split at h<;>cases h;exact keys_nil _
   ·split at h
    ·split at h
     ·exact rS h
     cases h
    cases h
   cases h
  cases h
 |lookup t m k ok=>
  simp only[ni]at h;split at h
  ·exact rS h
  cases h
 |mapUpdate t m k x=>
  simp only[ni]at h;split at h
  ·exact KZ h
  split at h
  ·split at h
   ·exact fV h fun l hl=>Zt hl
   cases h
  cases h
 |insert t m k x=>
  simp only[ni]at h;split at h
  ·split at h
   ·exact fV h fun l hl=>Zt hl
   cases h
  cases h
 |mapEntry t m k=>
  simp only[ni]at h;split at h
  ·split at h<;>cases h;rename_i he;exact Yw _ (Nj he)
  cases h
 |entryStore t m st x=>
  simp only[ni]at h;split at h
  ·exact fV h fun l hl=>Xb hl
  cases h
 |extract t i=>
  simp only[ni]at h;split at h
  ·split at h<;>cases h;exact keys_nil _
  cases h
 |call c=>
  obtain⟨callee,args,rI⟩:=c;cases callee with
  |builtin b=>exact KQ h
  |value f=>
   simp only[ni]at h;split at h
   ·exact Jg h
   ·exact Jg h
   cases h
  |_=>cases h
 |_=>cases h
end
def Ex.HR:Ex->Exit
 | .normal=> .normal
 | .ret=> .ret
 | .exit id=> .exit id
structure ie (k:Nat) (w:World) (H:qn) (ι:vG) (Im:Nat->Prop) (w' :World) (H' :qn) (ι' :vG) (jA:Nat->Prop):Prop where
 comp: ∀β b,β<k->H.get β=some b-> ∃b',H'.get β=some b' /\xi b b' (ι β) (ι' β)
 im: ∀b,Im b->jA b
 mr: ∀b,jA b->Im b\/w.heap.size<=b\/ ∃β x,H.get β=some x/\x.vn (ι β) b
 bC: ∀β x z,H'.get β=some x->x.vn (ι' β) z->w.heap.size<=z\/ ∃β0 x0,H.get β0=some x0/\x0.vn (ι β0) z
 ka: ∀b,b<w.heap.size->(∀ β x,H.get β=some x-> ¬x.vn (ι β) b)->w'.heap[b]? =w.heap[b]?
 size:w.heap.size<=w'.heap.size
 io:w'.os=w.os/\w'.output=w.output
theorem w8.toK{w w' :World}{H H' :qn}{ι ι' :vG}{Im jA:Nat->Prop}(h:w8 w H ι Im w' H' ι' jA)(k:Nat):ie k w H ι Im w' H' ι' jA:=
 ⟨fun β b _ hb=>h.comp β b hb,h.im,h.mr,h.bC,h.ka,h.size,h.io⟩
theorem ie.full{k:Nat}{w w' :World}{H H' :qn}{ι ι' :vG}{Im jA:Nat->Prop}(h:ie k w H ι Im w' H' ι' jA)(hk: ∀β b,H.get β=some b->β<k):w8 w H ι Im w' H' ι' jA:=
 ⟨fun β b hb=>h.comp β b (hk β b hb) hb,h.im,h.mr,h.bC,h.ka,h.size,h.io⟩
theorem ie.trans{k:Nat}{w w1 w2:World}{H H1 H2:qn}{ι ι1 ι2:vG}{Im aU Uz:Nat->Prop}
  (h1:ie k w H ι Im w1 H1 ι1 aU) (h2:ie k w1 H1 ι1 aU w2 H2 ι2 Uz):ie k w H ι Im w2 H2 ι2 Uz where
 comp:=fun β b hk h=>by
  obtain⟨b1,g1,c1⟩:=h1.comp β b hk h;obtain⟨b2,g2,c2⟩:=h2.comp β b1 hk g1;exact⟨b2,g2,Q6 c1 c2⟩
 im:=fun b h=>h2.im b (h1.im b h)
 mr:=fun b h=>by
  rcases h2.mr b h with h|h|⟨β,x,hx,hu⟩
  ·exact h1.mr b h
  ·exact .inr (.inl (Nat.le_trans h1.size h))
  rcases h1.bC β x b hx hu with h|⟨β0,x0,g,En⟩
  ·exact .inr (.inl h)
  exact .inr (.inr ⟨β0,x0,g,En⟩)
 bC:=fun β x z h hu=>by
  rcases h2.bC β x z h hu with h|⟨β0,x0,g,En⟩
  ·exact .inl (Nat.le_trans h1.size h)
  exact h1.bC β0 x0 z g En
 ka:=fun b hb hn=>by
  have e1:=h1.ka b hb hn;have e2:=h2.ka b (Nat.lt_of_lt_of_le hb h1.size) (fun β x hx hu=>by
   rcases h1.bC β x b hx hu with h|⟨β0,x0,g,En⟩
   ·omega
   exact hn β0 x0 g En)
  exact e2.trans e1
 size:=Nat.le_trans h1.size h2.size
 io:=⟨h2.io.1.trans h1.io.1,h2.io.2.trans h1.io.2⟩
def lj[zN](k:Nat)(w:World)(H:qn)(ι:vG)(Im:Nat->Prop)(nt:Nat)(s:St)(a:Act)(w' :World):Prop:=
 ∃ι' jA,Inv w' a s ι' jA nt/\ie k w H ι Im w' s.heap ι' jA
theorem lj.from[zN]{k:Nat}{w:World}{H:qn}{ι:vG}{Im:Nat->Prop}{w1:World}{H1:qn}{ι1:vG}{aU:Nat->Prop}{nt:Nat}{s:St}{a:Act}{w' :World}(h:lj k w1 H1 ι1 aU nt s a w')(he:ie k w H ι Im w1 H1 ι1 aU):
  lj k w H ι Im nt s a w' :=
 let⟨ι',jA,h1,h2⟩:=h
 ⟨ι',jA,h1,he.trans h2⟩
def FQ[zN](P:Program)(G:GP)(f:FuncId)(id:Nat)(s:St)(ex:Ex)(s' :St):Prop:=
 ∀fi c,G.fn f=some fi->zv fi.body id=some c->(∀ i,ex= .exit i->i≠id)/\ ∃n,∀(w:World)(ι:vG)(Im:Nat->Prop)(a:Act),Inv w a s ι Im fi.nt->
  Code.rounds P c (fun e a' w' =>e=(match ex with| .exit i=>Exit.exit i| .ret=> .ret| .normal=> .exit id)/\lj (s.nx-(G.spec f id).off) w s.heap ι Im fi.nt s' a' w') n a w
structure Sound [zN] (P:Program) (G:GP) (O:zS):Prop extends SoundCall P O where
 loop: ∀f id s ex s',O.loop f id s=some (ex,s')->FQ P G f id s ex s'
def opsOK(nt:Nat)(ops:List Oper):Bool:=ops.all fun o=>match o.dst with|some d=>decide (d<nt)|none=>true
theorem K4{nt:Nat}{ops:List Oper}(h:opsOK nt ops=true):WH nt ops:=by
 intro o ho t ht;have:=List.all_eq_true.1 h o ho;rw[ht]at this;simpa using this
section
variable [zN] {P:Program} {w:World} {H:qn} {ι:vG} {Im:Nat->Prop}
theorem QE: ∀(E:vF)(l:List Nat)(t:Nat),(restrict E l).get t=if t∈l then E.get t else .undef
 |E,[],t=>by simp[restrict,vF.get]
 |E,x::r,t=>by
  simp only[restrict,vF.get,QE E r t,List.mem_cons];by_cases h:x=t
  ·subst h;simp
  simp[h,Ne.symm h]
theorem eC{a:Act}{E:vF}(hE: ∀t,RA w H ι Im (E.get t) (a.tmps.getD t undef))(l:List Nat): ∀t,RA w H ι Im ((restrict E l).get t) (a.tmps.getD t undef):=by
 intro t;rw[QE];split
 ·exact hE t
 exact .undef _
theorem sV{a:Act}{s:St}{nt:Nat}(h:Inv w a s ι Im nt)(l:List Nat):Inv w a { s with env:=restrict s.env l } ι Im nt:=
 ⟨h.heap,eC h.env l,h.nx,h.size,h.defers⟩
theorem gb(n:Nat): ∀(H:qn)(γ:Nat),(qn.upto n H).get γ=if γ<n then H.get γ else none
 |[],γ=>by simp[qn.upto,qn.get]
 |(i,b)::r,γ=>by
  simp only[qn.upto];split
  ·rename_i h;simp only[qn.get,gb n r γ];by_cases e:i=γ
   ·subst e;simp[h]
   simp[e]
  rename_i h;rw[gb n r γ];simp only[qn.get];by_cases e:i=γ
  ·subst e;simp[h]
  simp[e]
theorem ea(n:Nat): ∀(l:List Nat),rK n l=true↔ ∀x∈l,x<n
 |[]=>by simp[rK]
 |x::r=>by simp[rK,ea n r]
theorem aN{H' :qn}{x:AV}{v:Value}(hx:RA w H ι Im x v)(hg: ∀β∈x.refs,∀ b,H.get β=some b->H'.get β=some b):RA w H' ι Im x v:=by
 induction hx with
 |undef v=>exact .undef v
 |pv p v h=>exact .pv p v h
 |ptr β o c hb hk=>exact .ptr β o c (hg β (by simp[AV.refs]) _ hb) hk
 |yT β zF i o b1 o1 b hb xU h=>exact .yT β zF i o b1 o1 b (hg β (by simp[AV.refs]) _ hb) xU h
 |row β zF off n v b ho hb hk xU h=>exact .row β zF off n v b ho (hg β (by simp[AV.refs]) _ hb) hk xU h
 |mR c o b off vs oI hc hf h=>exact .mR c o b off vs oI hc hf h
 |aT a=>exact .aT a
 |map β es zI hb=>exact .map β es zI (hg β (by simp[AV.refs]) _ hb)
 |lp f a b va vb W8 Ti _ _ iha ihb=>
  exact .lp f a b va vb W8 Ti (fun i x v h1 h2=>iha i x v h1 h2 fun β hβ=>hg β (by simp only[AV.refs,List.mem_append];exact .inl (vi h1 hβ)))
   (fun i x v h1 h2=>ihb i x v h1 h2 fun β hβ=>hg β (by simp only[AV.refs,List.mem_append];exact .inr (vi h1 hβ)))
 |agg c vs hl hf _ ih=>exact .agg c vs hl hf fun i x v h1 h2=>ih i x v h1 h2 fun β hβ=>hg β (by simp only[AV.refs];exact vi h1 hβ)
 |xS c vs hl _ ih=>exact .xS c vs hl fun i x v h1 h2=>ih i x v h1 h2 fun β hβ=>hg β (by simp only[AV.refs];exact vi h1 hβ)
theorem WC: ∀{E:vF}{n:Nat},vF.below n E=true-> ∀t,∀ β∈(E.get t).refs,β<n
 |[],n,_,t,β,h=>by simp[vF.get,AV.refs]at h
 |(i,v)::r,n,hb,t,β,h=>by
  simp only[vF.below,zB]at hb;simp only[vF.get]at h;split at h
  ·exact(ea n _).1 hb.1 β h
  exact WC hb.2 t β h
theorem Jd: ∀{H:qn}{n:Nat},qn.below n H=true-> ∀{γ:Nat}{b:qC},H.get γ=some b-> ∀β∈b.refs,β<n
 |[],n,_,γ,b,h=>by simp[qn.get]at h
 |(i,c)::r,n,hb,γ,b,h=>by
  simp only[qn.below,zB]at hb;simp only[qn.get]at h;split at h
  ·cases h;exact fun β hβ=>(ea n _).1 hb.1 β hβ
  exact Jd hb.2 h
theorem upto_ok(hi:qW w H ι Im)(n:Nat)(hb:qn.below n (qn.upto n H)=true):qW w (qn.upto n H) ι Im where
 HY:=hi.HY
 W4:=hi.W4
 mW:=fun γ b h=>by
  rw[gb]at h;split at h;rotate_left
  ·cases h
  rename_i xB;have h0:=hi.mW γ b h;have hrefs: ∀β∈b.refs,β<n:=Jd hb (γ:=γ) (by rw[gb,if_pos xB];exact h);cases b with
  |box c=>
   obtain⟨vs,elem,fz,q1,q2,q3,q4,q5⟩:=h0;refine⟨vs,elem,fz,q1,q2,q3,q4,fun i x v a b=>aN (q5 i x v a b) fun β hβ b' xQ=>?_⟩;rw[gb,if_pos (hrefs β (by simp only[qC.refs];exact vi a hβ))];exact xQ
  |row qq sz es=>cases qq<;>exact h0
  |map es zI=>exact h0
  |yq sz es=>
   obtain⟨vs,elem,fz,q1,q2,q3,q4,q5,q6,q7,q8⟩:=h0;refine⟨vs,elem,fz,q1,q2,q3,q4,q5,q6,q7,fun i e j x a b=>?_⟩;obtain⟨v,k1,k2⟩:=q8 i e j x a b;refine⟨v,k1,aN k2 fun β hβ b' xQ=>?_⟩;rw[gb,if_pos (hrefs β (by
    simp only[qC.refs,List.mem_flatMap]
    exact⟨e,qX a,vi b hβ⟩))]
   exact xQ
  |jI qq ds es i5=>
   cases qq with
   |true=>exact h0
   |false=>
    obtain⟨vs,elem,fz,q1,q2,q3,q4,q5,q6,q7,q8,q9⟩:=h0;refine⟨vs,elem,fz,q1,q2,q3,q4,q5,q6,q7,q8,fun i p k a b=>?_⟩;obtain⟨v,k1,k2,k3⟩:=q9 i p k a b;refine⟨v,k1,k2,fun γ' zF hf=>⟨(k3 γ' zF hf).1,aN (k3 γ' zF hf).2 fun δ hδ c hc=>?_⟩⟩;simp only[AV.refs,List.mem_singleton]at hδ;subst hδ;rw[gb,if_pos (hrefs _ (by simp[qC.refs,hf]))];exact hc
  |xf=>trivial
 inj:=fun γ γ' b b' z h h' u u' =>by
  rw[gb]at h h';split at h;rotate_left
  ·cases h
  split at h';rotate_left
  ·cases h'
  exact hi.inj γ γ' b b' z h h' u u'
 im:=hi.im
 KH:=fun γ b z h hu=>by
  rw[gb]at h;split at h
  ·exact hi.KH γ b z h hu
  cases h
theorem Vd{a:Act}{nt:Nat}{s0 s s' :St}{w0:World}{ι0:vG}{oB:Nat->Prop}(h:Inv w a s ι Im nt)
  (UC: ∀β b,s0.heap.get β=some b->β<s0.nx) (he:w8 w0 s0.heap ι0 oB w s.heap ι Im) (l:List Nat) (hr:narrow l s0.nx s=some s'):
  Inv w a s' ι Im nt/\w8 w0 s0.heap ι0 oB w s'.heap ι Im:=by
 unfold narrow at hr;simp only at hr;split at hr<;>cases hr;rename_i hc;simp only[zB]at hc;refine⟨⟨upto_ok h.heap _ hc.2,fun t=>?_,fun β b hb=>?_,h.size,h.defers⟩,⟨fun β b hb=>?_,he.im,he.mr,fun γ x z hx hu=>?_,he.ka,he.size,he.io⟩⟩
 ·refine aN (eC h.env l t) fun β hβ b hb=>?_;rw[gb,if_pos (WC hc.1 t β hβ)];exact hb
 ·simp only[gb]at hb;split at hb
  ·assumption
  cases hb
 ·obtain⟨b',q1,q2⟩:=he.comp β b hb;exact⟨b',by simp only[gb];rw[if_pos (UC β b hb)];exact q1,q2⟩
 simp only[gb]at hx;split at hx
 ·exact he.bC γ x z hx hu
 cases hx
theorem Gz{a:Act}{nt:Nat}{s0 s:St}{w0:World}{ι0:vG}{oB:Nat->Prop}(h:Inv w a s ι Im nt)
  (UC: ∀β b,s0.heap.get β=some b->β<s0.nx) (he:w8 w0 s0.heap ι0 oB w s.heap ι Im) (l:List Nat):
  Inv w a (a7 l s0.nx s) ι Im nt/\w8 w0 s0.heap ι0 oB w (a7 l s0.nx s).heap ι Im:=by
 unfold a7;split
 ·rename_i s' eN;exact Vd h UC he l eN
 exact⟨sV h l,he⟩
theorem B9(g:Nat->Nat): ∀(E:vF)(t:Nat),(Pa g E).get t=(E.get t).rE g
 |[],t=>by simp[Pa,vF.get,AV.rE]
 |(i,v)::r,t=>by
  simp only[Pa,vF.get];split
  ·rfl
  exact B9 g r t
theorem VE: ∀{E:vF}{t β:Nat},β∈(E.get t).refs->β∈VD E
 |[],t,β,h=>by simp[vF.get,AV.refs]at h
 |(i,v)::r,t,β,h=>by
  simp only[vF.get]at h;simp only[VD,List.mem_append];split at h
  ·exact .inl h
  exact .inr (VE h)
theorem Vs(m:Nat)(r:List Nat){β:Nat}(h:β<m):(List.range m++r)[β]? =some β:=by
 rw[List.getElem?_append_left (by simpa using h)];simp[h]
theorem Jh{a:Act}{nt:Nat}{s s' :St}(h:Inv w a s ι Im nt)(l:List Nat)(n:Nat)(hr:canon l n s=some s'):
  ∃ι',Inv w a s' ι' Im nt/\ie n w s.heap ι Im w s'.heap ι' Im:=by
 unfold canon at hr;split at hr<;>cases hr;rename_i L H' iK;obtain⟨hs,JK,rr,hL⟩:=eI List.nodup_range iK;refine⟨lM ι L,⟨hs.hinv h.heap,fun t=>?_,fun β b hb=>?_,h.size,h.defers⟩,⟨fun β b hk hb=>?_,fun _ h=>h,fun _ h=> .inl h,fun γ x z hx hu=>?_,fun _ _ _=>rfl,xJ _,⟨rfl,rfl⟩⟩⟩
 ·rw[B9];exact lF _ (eC h.env l t) fun β hβ b hb=>hs.HK (JK β (VE hβ)) b hb
 ·obtain⟨γ,b0,q1,_⟩:=hs.inv (ι:=ι) hb;have:=(qF q1).1;show β<H'.length;rw[hs.len];exact this
 ·have hl:L[β]? =some β:=by rw[hL];exact Vs n rr hk
  refine⟨b.rE (pos L),by rw[hs.look,hl];simp[hb], ?_⟩;have:lM ι L β=ι β:=by simp[lM,hl]
  rw[this];exact Zy (pos L) (vV b (ι β))
 obtain⟨β,b0,h1,h2,rfl,h4⟩:=hs.inv (ι:=ι) hx;rw[qC.bJ,h4]at hu;exact .inr ⟨β,b0,h2,hu⟩
theorem Kl: ∀(E:vF)(n:Nat)(x:AV)(t:Nat),(setEnv E n x).get t=if t=n then x else E.get t
 |[],n,x,t=>by
  simp only[setEnv,vF.get];by_cases h:n=t
  ·simp[h]
  simp[h,Ne.symm h]
 |(i,v)::r,n,x,t=>by
  simp only[setEnv];split
  ·rename_i h;subst h;simp only[vF.get];by_cases h2:i=t
   ·simp[h2]
   simp[h2,Ne.symm h2]
  rename_i h;simp only[vF.get,Kl r n x t];by_cases h2:i=t
  ·subst h2;simp[h]
  simp[h2]
theorem Ie(hi:qW w H ι Im){nx:Nat}(xt: ∀β b,H.get β=some b->β<nx):
  qW w (H.put nx (.row true 0 [])) (jj ι nx ⟨0,0,[]⟩) Im/\w8 w H ι Im w (H.put nx (.row true 0 [])) (jj ι nx ⟨0,0,[]⟩) Im:=by
 have hf:=JA (X:=fun _=>False) (fun β b h=> .inl (xt β b h)) id;exact qW.put (Qf:=GC hf) hi nx (.row true 0 []) ⟨0,0,[]⟩ (fun x hx=>by rw[hf]at hx;cases hx) ⟨xJ _,rfl,rfl⟩ (fun _ _ _=>rfl) (fun h=>by cases h) (fun _=>rfl)
theorem Vf{H' :qn}{nx:Nat}(hg:H'.get nx=some (.row true 0 []))(ι' :vG):RA w H' ι' Im (.row nx 0 0 0) (.slice none 0 0):=
 .row nx 0 0 0 _ _ rfl hg (fun _=>⟨_,_,_,rfl⟩) (fun _ _ _ e=>by cases e;exact xJ _) fun _ _ _ e _=>by cases e;exact⟨xJ _,by simp⟩
theorem Vg{sz:Nat}{v:Value}(h:RA w H ι Im (.pv (.sl true sz [])) v):v= .slice none 0 0:=by
 have:=h.uB;cases this;rfl
theorem cN{a:Act}{nt:Nat}: ∀(l:List Nat){ι:vG}{s:St},Inv w a s ι Im nt->
  ∃ι',Inv w a (jQ l s) ι' Im nt/\w8 w s.heap ι Im w (jQ l s).heap ι' Im
 |[],ι,s,h=>⟨ι,h,w8.refl _ _ _ _⟩
 |t::r,ι,s,h=>by
  simp only[jQ];split
  ·rename_i sz ht;obtain⟨h1,e1⟩:=Ie h.heap h.nx;have hv:a.tmps.getD t undef= .slice none 0 0:=Vg (ht ▸ h.env t);have hinv:Inv w a { env:=setEnv s.env t (.row s.nx 0 0 0),heap:=qn.put s.heap s.nx (.row true 0 []),nx:=s.nx+1 } (jj ι s.nx ⟨0,0,[]⟩) Im nt:=by
    refine⟨h1,fun t' =>?_,fun β b hb=>?_,h.size,h.defers⟩
    ·simp only[Kl];split
     ·rename_i e;subst e;rw[hv];exact Vf (by simp[qn.qZ]) _
     exact(h.env t').mono h.heap e1
    simp only[qn.qZ]at hb;split at hb
    ·rename_i e;subst e;exact Nat.lt_succ_self _
    have:=h.nx β b hb;exact Nat.lt_succ_of_lt this
   obtain⟨ι',h2,e2⟩:=cN r hinv;exact⟨ι',h2,e1.trans e2⟩
  exact cN r h
theorem gH{a:Act}{nt:Nat}: ∀(l:List (Nat×Nat)){ι:vG}{s:St},Inv w a s ι Im nt->
  ∃ι',Inv w a (zL l s) ι' Im nt/\w8 w s.heap ι Im w (zL l s).heap ι' Im
 |[],ι,s,h=>⟨ι,h,w8.refl _ _ _ _⟩
 |(t,k)::r,ι,s,h=>by
  simp only[zL];split;rotate_left
  ·exact gH r h
  rename_i β o ht;split;rotate_left
  ·exact gH r h
  rename_i c hb;split;rotate_left
  ·exact gH r h
  rename_i sz hc;obtain⟨h1,e1⟩:=Ie h.heap h.nx;have hβ:β≠s.nx:=fun e=>by have:=h.nx β _ hb;omega
  have Yo:(qn.put s.heap s.nx (.row true 0 [])).get β=some (.box c):=by simp[qn.qZ,hβ,hb]
  obtain⟨h2,e2⟩:=qW.put (Qf:=TG Yo rfl) (w' :=w) h1 β (.box (c.set (o+k) (.row s.nx 0 0 0))) (jj ι s.nx ⟨0,0,[]⟩ β) (fun x hx=>by rw[Yo]at hx;cases hx;rfl) ⟨xJ _,rfl,rfl⟩ (fun _ _ _=>rfl)
   (fun _=> .inr ⟨_,Yo,rfl,rfl⟩) (fun he=>by
    obtain⟨vs,elem,fz,q1,q2,q3,q4,q5⟩:=h1.box Yo
    refine⟨vs,elem,fz,by simpa using q1,q2,by simpa using q3,fun x hx=>?_,fun i x v hx hv=>?_⟩
    ·rcases List.mem_or_eq_of_mem_set hx with hx|rfl
     ·exact q4 x hx
     rfl
    rw[List.getElem?_set]at hx
    split at hx
    ·rename_i e
     subst e
     split at hx<;>cases hx
     have:=q5 (o+k) _ v hc hv
     rw[Vg this]
     refine Vf ?_ _
     simp[qn.qZ,Ne.symm hβ]
    exact(q5 i x v hx hv).mono h1 he)
  have hinv:Inv w a { env:=s.env,heap:=qn.put (qn.put s.heap s.nx (.row true 0 [])) β (.box (c.set (o+k) (.row s.nx 0 0 0))),nx:=s.nx+1 } (jj (jj ι s.nx ⟨0,0,[]⟩) β (jj ι s.nx ⟨0,0,[]⟩ β)) Im nt:=by
   refine⟨h2,fun t' =>(h.env t').mono h.heap (e1.trans e2),fun γ b hγ=>?_,h.size,h.defers⟩;simp only[qn.qZ]at hγ;split at hγ
   ·rename_i e;subst e;have:=h.nx γ _ hb;exact Nat.lt_succ_of_lt this
   split at hγ
   ·rename_i e;subst e;exact Nat.lt_succ_self _
   have:=h.nx γ b hγ;exact Nat.lt_succ_of_lt this
  obtain⟨ι',h3,e3⟩:=gH r hinv;exact⟨ι',h3,(e1.trans e2).trans e3⟩
theorem AH{a:Act}{nt:Nat}{s:St}(sp:nU)(h:Inv w a s ι Im nt):
  ∃ι' jA,Inv w a (enter sp s) ι' jA nt/\w8 w s.heap ι Im w (enter sp s).heap ι' jA:=by
 unfold enter;obtain⟨ι1,h1,e1⟩:=cN sp.jQ h;obtain⟨ι2,h2,e2⟩:=gH sp.zL h1;obtain⟨Im3,h3,e3⟩:=mM (sI (zL sp.zL (jQ sp.jQ s)).env (zL sp.zL (jQ sp.jQ s)).heap sp.freeze) h2;exact⟨ι2,Im3,sV h3 sp.YD,(e1.trans e2).trans e3⟩
theorem ie.YB{k k' :Nat}{w w' :World}{H H' :qn}{ι ι' :vG}{Im jA:Nat->Prop}(h:ie k w H ι Im w' H' ι' jA)(hk:k' <=k):ie k' w H ι Im w' H' ι' jA:=
 ⟨fun β b h1 h2=>h.comp β b (by omega) h2,h.im,h.mr,h.bC,h.ka,h.size,h.io⟩
theorem lj.YB[zN]{k k' :Nat}{w:World}{H:qn}{ι:vG}{Im:Nat->Prop}{nt:Nat}{s:St}{a:Act}{w' :World}(h:lj k w H ι Im nt s a w')(hk:k' <=k):lj k' w H ι Im nt s a w' :=
 let⟨ι',jA,h1,h2⟩:=h
 ⟨ι',jA,h1,h2.YB hk⟩
theorem Sx{a:Act}{nt:Nat}{s s1:St}(sp:nU)(h:Inv w a s ι Im nt)(hr:fx sp s=some s1):
  ∃ι' jA,Inv w a s1 ι' jA nt/\ie (s1.nx-sp.off) w s.heap ι Im w s1.heap ι' jA/\(∀ β b,s.heap.get β=some b->β<s1.nx-sp.off):=by
 obtain⟨ι1,aU,h1,e1⟩:=AH sp h;have plain:s1=enter sp s->sp.off=0-> ∃ι' jA,Inv w a s1 ι' jA nt/\ie (s1.nx-sp.off) w s.heap ι Im w s1.heap ι' jA/\(∀ β b,s.heap.get β=some b->β<s1.nx-sp.off):=by
  rintro rfl h0;refine⟨ι1,aU,h1,e1.toK _,fun β b hb=>?_⟩;obtain⟨b',q1,_⟩:=e1.comp β b hb;have:=h1.nx β b' q1;omega
 unfold fx at hr;split at hr
 ·rename_i hg;cases hr;exact plain rfl (by simp[nU.off,hg])
 rename_i hg;have cC:sp.off=sp.own:=by simp[nU.off,hg]
 split at hr
 ·rename_i h0;cases hr;exact plain rfl (by omega)
 rename_i k h0;split at hr;rotate_left
 ·cases hr
 rename_i s2 DN;split at hr<;>cases hr;rename_i hn;obtain⟨ι2,h2,e2⟩:=Jh h1 sp.YD s.nx DN;have:s1.nx-sp.off=s.nx:=by omega
 rw[this];exact⟨ι2,aU,h2,(e1.toK _).trans e2,h.nx⟩
theorem A9{a:Act}{nt:Nat}{s0 s s' :St}{w0:World}{ι0:vG}{oB:Nat->Prop}(sp:nU)(h:Inv w a s ι Im nt)
  (UC: ∀β b,s0.heap.get β=some b->β<s0.nx) (he:w8 w0 s0.heap ι0 oB w s.heap ι Im) (hr:again sp s0.nx s=some s'):
  ∃ι',Inv w a s' ι' Im nt/\ie (s0.nx-sp.off) w0 s0.heap ι0 oB w s'.heap ι' Im/\s0.nx-sp.off<=s'.nx-sp.off:=by
 unfold again at hr;split at hr
 ·rename_i hg;unfold Qm at hr;split at hr<;>cases hr;rename_i hn;obtain⟨ι1,h1,e1⟩:=cN sp.jQ h;obtain⟨ι2,h2,e2⟩:=gH sp.zL h1;exact⟨ι2,sV h2 sp.YD,((he.trans e1).trans e2).toK _,Nat.sub_le_sub_right hn _⟩
 rename_i hg;have cC:sp.off=sp.own:=by simp[nU.off,hg]
 split at hr
 ·rename_i h0;obtain⟨h2,e2⟩:=Vd h UC he _ hr;refine⟨ι,h2,e2.toK _, ?_⟩;unfold narrow at hr;simp only at hr;split at hr<;>cases hr;exact xJ _
 rename_i k h0;split at hr;rotate_left
 ·cases hr
 rename_i s2 DN;split at hr<;>cases hr;rename_i hn;obtain⟨ι1,h1,e1⟩:=cN sp.jQ h;obtain⟨ι2,h2,e2⟩:=gH sp.zL h1;obtain⟨ι3,h3,e3⟩:=Jh h2 sp.YD _ DN;rw[cC,h0];exact⟨ι3,h3,(((he.trans e1).trans e2).toK _).trans e3,by omega⟩
theorem JU{a:Act}{nt:Nat}{s0 s s' :St}{w0:World}{ι0:vG}{oB:Nat->Prop}(sp:nU)(h:Inv w a s ι Im nt)
  (UC: ∀β b,s0.heap.get β=some b->β<s0.nx) (he:w8 w0 s0.heap ι0 oB w s.heap ι Im) (hr:leave sp s0.nx s=some s'):
  ∃ι',Inv w a s' ι' Im nt/\ie (s0.nx-sp.off) w0 s0.heap ι0 oB w s'.heap ι' Im:=by
 unfold leave at hr;split at hr
 ·cases hr;exact⟨ι,sV h sp.out,he.toK _⟩
 rename_i hg;have cC:sp.off=sp.own:=by simp[nU.off,hg]
 split at hr
 ·cases hr;obtain⟨h2,e2⟩:=Gz h UC he sp.out;exact⟨ι,h2,e2.toK _⟩
 rename_i k h0;obtain⟨ι3,h3,e3⟩:=Jh h sp.out _ hr;rw[cC,h0];exact⟨ι3,h3,(he.toK _).trans e3⟩
theorem Ze{ex ex' :Ex}{o:Option St}{s:St}(h:left ex o=some (ex',s)):o=some s/\ex' =ex:=by
 unfold left at h;split at h<;>cases h;exact⟨rfl,rfl⟩
end
section
variable [zN] {P:Program} {w:World} {H:qn} {ι:vG} {Im:Nat->Prop}
theorem RA.ext{H' :qn}(h: ∀γ,H'.get γ=H.get γ){x:AV}{v:Value}(hx:RA w H ι Im x v):RA w H' ι Im x v:=
 aN hx fun β _ b hb=>by rw[h];exact hb
theorem qW.ext{H' :qn}(h: ∀γ,H'.get γ=H.get γ)(hi:qW w H ι Im):qW w H' ι Im where
 HY:=hi.HY
 W4:=hi.W4
 mW:=fun β b hb=>by
  rw[h]at hb;have h0:=hi.mW β b hb;cases b with
  |box c=>
   obtain⟨vs,elem,fz,q1,q2,q3,q4,q5⟩:=h0;exact⟨vs,elem,fz,q1,q2,q3,q4,fun i x v a b=>(q5 i x v a b).ext h⟩
  |row qq sz es=>cases qq<;>exact h0
  |map es zI=>exact h0
  |yq sz es=>
   obtain⟨vs,elem,fz,q1,q2,q3,q4,q5,q6,q7,q8⟩:=h0;exact⟨vs,elem,fz,q1,q2,q3,q4,q5,q6,q7,fun i e j x a b=>(q8 i e j x a b).imp fun v k=>⟨k.1,k.2.ext h⟩⟩
  |jI qq ds es i5=>
   cases qq with
   |true=>exact h0
   |false=>
    obtain⟨vs,elem,fz,q1,q2,q3,q4,q5,q6,q7,q8,q9⟩:=h0;refine⟨vs,elem,fz,q1,q2,q3,q4,q5,q6,q7,q8,fun i p k a b=>?_⟩;obtain⟨v,k1,k2,k3⟩:=q9 i p k a b;exact⟨v,k1,k2,fun γ' zF hf=>⟨(k3 γ' zF hf).1,(k3 γ' zF hf).2.ext h⟩⟩
  |xf=>trivial
 inj:=fun β β' b b' z h1 h2=>hi.inj β β' b b' z (by rw[<- h];exact h1) (by rw[<- h];exact h2)
 im:=hi.im
 KH:=fun β b z hb=>hi.KH β b z (by rw[<- h];exact hb)
theorem w8.ext{w0:World}{H0 H' :qn}{ι0:vG}{oB:Nat->Prop}(h: ∀γ,H'.get γ=H.get γ)(he:w8 w0 H0 ι0 oB w H ι Im):w8 w0 H0 ι0 oB w H' ι Im where
 comp:=fun β b hb=>by
  obtain⟨b',q1,q2⟩:=he.comp β b hb;exact⟨b',by rw[h];exact q1,q2⟩
 im:=he.im
 mr:=he.mr
 bC:=fun β x z hx=>he.bC β x z (by rw[<- h];exact hx)
 ka:=he.ka
 size:=he.size
 io:=he.io
structure At (G:GP) (O:zS) (all:List Oper) (tm:Bool) (os:List Oper) (cs:List Rc) (i:Nat) (s:St) (j:Nat) (o:Oper) (c:Rc):Prop where
 env:c.E=mX os cs i (fun k=>decide (k<i+j)) s.env
 heap:c.H=kV cs i (fun k=>decide (k<i+j)) s.heap
 guard:vM all o c.E=some c.on
 on:c.on=true->(∃ wf,ni G O o.op c.E c.H c.nx=some (c.v,wf,c.cL)/\c.ws=fK tm c.rd c.H wf)/\c.rd=mF o.op c.E c.H
 off:c.on=false->c.v= .xS []/\c.ws=[]/\c.cL=c.nx/\c.rd=[]
 nx:s.nx<=c.nx
 bd: ∀β b,c.H.get β=some b->β<c.nx
 cL:c.nx<=c.cL
 keys:(∀ x∈c.keys,x<c.cL)/\ ∀γ,c.nx<=γ->γ<c.cL->γ∈c.keys
theorem MK: ∀(ws:List (Nat×qC)){H:qn}{γ:Nat}{b:qC},(qS ws H).get γ=some b->γ∈ws.map (·.1)\/H.get γ=some b
 |ws,H,γ,b,h=>by
  by_cases hr:γ∈ws.map (·.1)
  ·exact .inl hr
  have jv: ∀x∈ws,x.1≠γ:=fun x hx e=>hr (by rw[<- e];exact List.mem_map.2 ⟨x,hx,rfl⟩);rw[jB ws _ γ jv]at h;exact .inr h
theorem Ji{G:GP}{O:zS}{all:List Oper}{tm:Bool}{o:Oper}{r:List Oper}{c:Rc}{cs:List Rc}{s s' :St}(h:bu G O all tm (o::r) (c::cs) s s')(hb: ∀β b,s.heap.get β=some b->β<s.nx):
  s.nx<=c.cL/\(∀ x∈c.keys,x<c.cL)/\(∀ γ,s.nx<=γ->γ<c.cL->γ∈c.keys)/\ ∀β b,(qS c.ws s.heap).get β=some b->β<c.cL:=by
 obtain⟨_,_,_,_,h5,h6,_⟩:=h;have key:s.nx<=c.cL/\(∀ x∈c.ws,x.1<c.cL)/\ ∀γ,s.nx<=γ->γ<c.cL->γ∈c.ws.map (·.1):=by
  cases SX:c.on with
  |true=>
   obtain⟨⟨wf,h8,h9⟩,_⟩:=h5 SX;obtain⟨g1,g2,g3⟩:=Ab h8 hb;rw[h9];refine⟨g1,fun x hx=>g2 x (PG hx),fun γ a b=>?_⟩;rcases PE (tm:=tm) (rd:=c.rd) (H:=s.heap) (g3 γ a b)with h|⟨b',h⟩
   ·exact h
   have:=hb γ b' h;omega
  |false=>
   obtain⟨_,e2,e3,_⟩:=h6 SX;rw[e2,e3];exact⟨xJ _,by simp,fun γ a b=>by omega⟩
 obtain⟨k1,k2,k3⟩:=key;refine⟨k1,fun x hx=>?_,k3,fun β b hβ=>?_⟩
 ·obtain⟨y,hy,rfl⟩:=List.mem_map.1 hx;exact k2 y hy
 rcases MK _ hβ with h|h
 ·obtain⟨y,hy,rfl⟩:=List.mem_map.1 h;exact k2 y hy
 have:=hb β b h;omega
theorem Q5{G:GP}{O:zS}{all:List Oper}{tm:Bool}: ∀{os:List Oper}{cs:List Rc}{s s' :St},bu G O all tm os cs s s' ->(∀ β b,s.heap.get β=some b->β<s.nx)-> ∀(i j:Nat)(o:Oper)(c:Rc),os[j]? =some o->cs[j]? =some c->
  At G O all tm os cs i s j o c
 |[],_,_,_,_,_,_,_,_,_,ho,_=>by simp at ho
 |_::_,[],_,_,h,_,_,_,_,_,_,_=>h.elim
 |o' ::os,c' ::cs,s,s',h,hb,i,j,o,c,ho,hc=>by
  obtain⟨k1,k2,k3,k4⟩:=Ji h hb;obtain⟨h1,h2,h3,h4,h5,h6,h7⟩:=h;cases j with
  |zero=>
   simp only[List.getElem?_cons_zero,kX]at ho hc;subst ho hc;refine⟨?_, ?_,by rw[h1];exact h4,by rw[h1,h2,h3];exact h5,by rw[h3];exact h6,by rw[h3];exact xJ _,by rw[h2,h3];exact hb,by rw[h3];exact k1,k2,by rw[h3];exact k3⟩
   ·rw[ed _ _ _ _ _ fun k hk=>by simpa using hk,h1]
   rw[np _ _ _ _ fun k hk=>by simpa using hk,h2]
  |succ j=>
   simp only[List.getElem?_cons_succ]at ho hc;have:=Q5 h7 k4 (i+1) j o c ho hc;have e:(fun k=>decide (k<i+(j+1)))=fun k=>decide (k<i+1+j):=by funext k;rw[show i+(j+1)=i+1+j from by omega]
   refine⟨?_, ?_,this.guard,this.on,this.off,Nat.le_trans k1 this.nx,this.bd,this.cL,this.keys⟩
   ·rw[this.env,e];simp only[mX];rw[if_pos (by simp;omega)]
   rw[this.heap,e];simp only[kV];rw[if_pos (by simp;omega)]
theorem Z1{G:GP}{O:zS}{all:List Oper}{tm:Bool}: ∀{os:List Oper}{cs:List Rc}{s s' :St},bu G O all tm os cs s s' ->(∀ β b,s.heap.get β=some b->β<s.nx)-> ∀(i:Nat),
  s'.env=mX os cs i (fun _=>true) s.env/\s'.heap=kV cs i (fun _=>true) s.heap/\s.nx<=s'.nx/\(∀ β b,s'.heap.get β=some b->β<s'.nx)/\
   (∀(j:Nat)(c:Rc),cs[j]? =some c->s.nx<=c.nx/\c.cL<=s'.nx)/\ ∀(a b:Nat)(ca cb:Rc),a<b->cs[a]? =some ca->cs[b]? =some cb->ca.cL<=cb.nx
 |[],[],s,s',h,hb,i=>by
  have h' :s' =s:=h;subst h';exact⟨rfl,rfl,xJ _,hb,by simp,by simp⟩
 |[],_::_,_,_,h,_,_=>h.elim
 |_::_,[],_,_,h,_,_=>h.elim
 |o::os,c::cs,s,s',h,hb,i=>by
  obtain⟨k1,k2,k3,k4⟩:=Ji h hb;obtain⟨h1,h2,h3,h4,h5,h6,h7⟩:=h;obtain⟨q1,q2,q3,q4,q5,q6⟩:=Z1 h7 k4 (i+1);refine⟨?_, ?_,Nat.le_trans k1 q3,q4,fun j c' UA=>?_,fun a b ca cb eM ha xQ=>?_⟩
  ·rw[q1];simp[mX]
  ·rw[q2];simp[kV]
  ·cases j with
   |zero=>
    simp only[List.getElem?_cons_zero,kX]at UA;subst UA;exact⟨by rw[h3];exact xJ _,q3⟩
   |succ j=>
    simp only[List.getElem?_cons_succ]at UA;obtain⟨r1,r2⟩:=q5 j c' UA;simp only at r1;exact⟨Nat.le_trans k1 r1,r2⟩
  cases b with
  |zero=>omega
  |succ b=>
   simp only[List.getElem?_cons_succ]at xQ;cases a with
   |zero=>
    simp only[List.getElem?_cons_zero,kX]at ha;subst ha;exact(q5 b cb xQ).1
   |succ a=>
    simp only[List.getElem?_cons_succ]at ha;exact q6 a b ca cb (by omega) ha xQ
def RZ(nt:Nat)(os:List Oper)(cs:List Rc)(s:St)(w0:World)(ι0:vG)(oB:Nat->Prop)(D:Nat->Bool)(a:Act)(w:World):Prop:=
 ∃ι Im,qW w (kV cs 0 D s.heap) ι Im/\(∀ t,RA w (kV cs 0 D s.heap) ι Im ((mX os cs 0 D s.env).get t) (a.tmps.getD t undef))/\nt<=a.tmps.size/\a.defers=[]/\
  w8 w0 s.heap ι0 oB w (kV cs 0 D s.heap) ι Im
def tK(D:Nat->Bool)(j:Nat):Nat->Bool:=fun k=>decide (k=j) || D k
theorem EM{ops:Array Oper}{o:Oper}{E E' :vF}(h: ∀t∈o.looksAt ops,E'.get t=E.get t):(∀ x∈o.op.operands,ev E' x=ev E x)/\vM ops.toList o E' =vM ops.toList o E:=by
 constructor
 ·intro x hx;cases x with
  |tmp t=>
   refine h t ?_;unfold Oper.looksAt;refine List.mem_append_left _ (List.mem_filterMap.2 ⟨.tmp t,by simpa using hx,rfl⟩)
  |_=>rfl
 unfold vM;cases hg:o.guard with
 |none=>rfl
 |some g=>
  obtain⟨j,want⟩:=g;simp only;cases hj:ops.toList[j]? with
  |none=>rfl
  |some oj=>
   simp only;cases hd:oj.dst with
   |none=>rfl
   |some d=>
    simp only;rw[h d];unfold Oper.looksAt;refine List.mem_append_right _ ?_;rw[hg];have:ops[j]? =some oj:=by rw[<- Array.getElem?_toList];exact hj
    simp[this,hd]
theorem step_ok{G:GP}{O:zS}(hG:vL P G)(hO:SoundCall P O){nt:Nat}{ops:Array Oper}(hd:WH nt ops.toList)(hdr:Z2 ops.toList=true){cs:List Rc}{s s' :St}{tm:Bool}
  (W5:bu G O ops.toList tm ops.toList cs s s') (SM: ∀β b,s.heap.get β=some b->β<s.nx) (lW:nk (wb [] ops.toList) (V7 0 cs [])=true)
  {w0:World} {ι0:vG} {oB:Nat->Prop} {D:Nat->Bool} (hD:N3 ops.toList D) {j:Nat} {o:Oper} (ho:ops.toList[j]? =some o) (hj:D j=false)
  (Wa: ∀e∈o.after,Region.binds .any e=true->D e.on=true) {a:Act} {w:World} (h:RZ nt ops.toList cs s w0 ι0 oB D a w) (Q:Exit->Act->World->Prop):
  wpOp P ops Q j (RZ nt ops.toList cs s w0 ι0 oB (tK D j)) a w:=by
 simp only[Z2,zB]at hdr;obtain⟨hfwd,NT⟩:=hdr;have hlen:=W5.len;have NY:j<cs.length:=by rw[hlen];exact(qF ho).1
 obtain⟨c,hc⟩: ∃c,cs[j]? =some c:=⟨_,kU NY⟩;have AR:=Q5 W5 SM 0 j o c ho hc;obtain⟨_,_,_,_,hnxs,hnxp⟩:=Z1 W5 SM 0;have hord:=(V8 cs 0 [] lW).2;have ahead: ∀i,ordered (wb [] ops.toList) i j=true->D i=true:=iw hfwd hD j o ho Wa;have behind: ∀k,k<ops.toList.length->ordered (wb [] ops.toList) j k=true->D k=false:=fun k hk BH=>by
  cases BC:D k with
  |false=>rfl
  |true=>
   have:=iw hfwd hD k ops.toList[k] (kU hk) (fun e he hb=>hD k _ (kU hk) BC e he hb) j BH;rw[hj]at this;cases this
 have harr:ops.toList.toArray=ops:=by simp
 have hlook: ∀t∈o.looksAt ops,(mX ops.toList cs 0 D s.env).get t=c.E.get t:=by
  intro t ht;rw[AR.env];refine rQ _ _ _ _ _ (fun k ok hk hdk=>?_) rfl;simp only[Nat.zero_add];have mE:=(qF hk).1;rcases Nat.lt_trichotomy k j with xB|rfl|BE
  ·rw[decide_eq_true xB];rcases apart_spec NT xB hk ho with h1|h1
   ·exact ahead k h1
   rw[harr]at h1;exact absurd ht ((Oper.apart_spec h1).1 t hdk)
  ·simpa using hj
  rw[decide_eq_false (by omega)];rcases apart_spec NT BE ho hk with h1|h1
  ·exact behind k mE h1
  rw[harr]at h1;exact absurd ht ((Oper.apart_spec h1).2.2 t hdk)
 obtain⟨hevs,hguard⟩:=EM hlook;obtain⟨ι,Im,hi,Xj,bO,G1,hevo⟩:=h;have M0: ∀(k:Nat)(ck:Rc),cs[k]? =some ck->D k=true->j<k->c.on=true->ck.on=true->FN c ck:=fun k ck hk BC BH h1 h2=>by
  rcases(hord k ck hk h2).2 j c BH hc h1 with h3|h3
  ·simp only[Nat.zero_add]at h3;have:=behind k (by rw[<- hlen];exact(qF hk).1) h3;rw[BC]at this;cases this
  exact h3
 have AW: ∀(k:Nat)(ck:Rc),cs[k]? =some ck->D k=false->k<j->c.on=true->ck.on=true->FN ck c:=fun k ck hk BC BH h1 h2=>by
  rcases(hord j c hc h1).2 k ck BH hk h2 with h3|h3
  ·simp only[Nat.zero_add]at h3;rw[ahead k h3]at BC;cases BC
  exact h3
 have Qg: ∀(k:Nat)(ck:Rc),cs[k]? =some ck->ck.on=false->ck.keys=[]:=fun k ck hk cC=>by
  have mE:k<ops.toList.length:=by rw[<- hlen];exact(qF hk).1
  have:=(Q5 W5 SM 0 k _ ck (kU mE) hk).off cC;unfold Rc.keys;rw[this.2.1];rfl
 have henv' : ∀t,(mX ops.toList cs 0 (tK D j) s.env).get t=(cO o.dst c.v (mX ops.toList cs 0 D s.env)).get t:=by
  intro t;rw[cP];by_cases hdt:o.dst=some t
  ·rw[if_pos hdt];refine Jq _ _ _ _ j o c ho hc hdt (by simp[tK]) fun k ok hk sG hdk=>?_;simp only[Nat.zero_add,tK];rw[decide_eq_false (by omega),Bool.false_or];rcases apart_spec NT hk ho sG with h1|h1
   ·exact behind k (qF sG).1 h1
   rw[harr]at h1;exact absurd hdk ((Oper.apart_spec h1).2.1 t hdt)
  rw[if_neg hdt];refine rQ _ _ _ _ _ (fun k ok hk hdk=>?_) rfl;simp only[Nat.zero_add,tK];have:k≠j:=fun e=>by subst e;rw[ho]at hk;cases hk;exact hdt hdk
  simp[this]
 have E1: ∀γ,(kV cs 0 (tK D j) s.heap).get γ=(qS c.ws (kV cs 0 D s.heap)).get γ:=by
  intro γ;by_cases hk:γ∈c.keys
  ·refine ZL cs 0 s.heap j c hc hk (by simp[tK]) (fun k ck BH HZ Xk=>?_) _;simp only[Nat.zero_add,tK];rw[decide_eq_false (by omega),Bool.false_or];cases BC:D k with
   |false=>rfl
   |true=>
    exfalso;have SX:c.on=true:=by
     cases h1:c.on with
     |true=>rfl
     |false=>rw[Qg j c hc h1]at hk;simp at hk
    have SY:ck.on=true:=by
     cases h1:ck.on with
     |true=>rfl
     |false=>rw[Qg k ck HZ h1]at Xk;simp at Xk
    exact(M0 k ck HZ BC BH SX SY).2.1 γ hk Xk
  have jv: ∀x∈c.ws,x.1≠γ:=fun x hx e=>hk (by rw[<- e];exact List.mem_map.2 ⟨x,hx,rfl⟩);rw[jB _ _ _ jv];refine nM _ _ _ _ (fun k ck HZ Xk=>?_) rfl;simp only[Nat.zero_add,tK];have:k≠j:=fun e=>by subst e;rw[hc]at HZ;cases HZ;exact hk Xk
  simp[this]
 have ho' :ops[j]? =some o:=by rw[<- Array.getElem?_toList];exact ho
 have hdo: ∀t,o.dst=some t->t<nt:=hd o (qX ho);unfold wpOp;rw[ho'];simp only;have hgd:vM ops.toList o (mX ops.toList cs 0 D s.env)=some c.on:=by rw[hguard];exact AR.guard
 rw[JC Xj hgd];cases SX:c.on with
 |false=>
  rw[if_neg (by simp)];obtain⟨e1,e2,e3,e4⟩:=AR.off SX;have hh: ∀γ,(kV cs 0 (tK D j) s.heap).get γ=(kV cs 0 D s.heap).get γ:=fun γ=>by rw[E1 γ,e2];rfl
  refine⟨ι,Im,hi.ext hh,fun t=>?_,by rw[Act.QA];exact bO,by rw[Act.put_defers];exact G1,hevo.ext hh⟩;rw[henv' t,e1];exact(XA Xj bO hdo GS t).ext hh
 |true=>
  rw[if_pos rfl];refine .inl ?_;obtain⟨⟨wf,e1,e1'⟩,e2⟩:=AR.on SX;have hag:xm (mF o.op c.E c.H) c.H (kV cs 0 D s.heap):=by
   intro γ hγ;rw[AR.heap];refine nM _ _ _ _ (fun k ck HZ Xk=>?_) rfl;simp only[Nat.zero_add];have SY:ck.on=true:=by
    cases h1:ck.on with
    |true=>rfl
    |false=>rw[Qg k ck HZ h1]at Xk;simp at Xk
   rcases Nat.lt_trichotomy k j with xB|rfl|BE
   ·rw[decide_eq_true xB];cases BC:D k with
    |true=>rfl
    |false=>exact absurd (e2 ▸ hγ) ((AW k ck HZ BC xB SX SY).1 γ Xk)
   ·simpa using hj
   rw[decide_eq_false (by omega)];cases BC:D k with
   |false=>rfl
   |true=>exact absurd Xk ((M0 k ck HZ BC BE SX SY).2.2 γ (e2 ▸ hγ))
  have Qh:ni G O o.op (mX ops.toList cs 0 D s.env) (kV cs 0 D s.heap) c.nx=some (c.v,wf,c.cL):=by
   rw[Sb hevs hag];exact e1
  have NW: ∀γ,(kV cs 0 (tK D j) s.heap).get γ=(qS wf (kV cs 0 D s.heap)).get γ:=fun γ=>by
   rw[E1 γ,e1'];exact PF (by rw[e2];exact hag) γ
  have hX:Bd (fun γ=>c.cL<=γ) (kV cs 0 D s.heap) c.nx:=by
   intro β b hb;by_cases h1:β<c.nx
   ·exact .inl h1
   by_cases h2:c.cL<=β
   ·exact .inr h2
   exfalso;have sE:β∈c.keys:=AR.keys.2 β (by omega) (by omega);have WY:(kV cs 0 D s.heap).get β=s.heap.get β:=by
    rw[nM (D' :=fun _=>false) cs 0 s.heap s.heap (fun k ck HZ Xk=>?_) rfl,np _ _ _ _ fun _ _=>rfl];simp only[Nat.zero_add];cases BC:D k with
    |false=>rfl
    |true=>
     exfalso;have mE:k<ops.toList.length:=by rw[<- hlen];exact(qF HZ).1
     have hatk:=Q5 W5 SM 0 k _ ck (kU mE) HZ;have SY:ck.on=true:=by
      cases h1:ck.on with
      |true=>rfl
      |false=>rw[Qg k ck HZ h1]at Xk;simp at Xk
     rcases Nat.lt_trichotomy k j with xB|rfl|BE
     ·have h3:=hatk.keys.1 β Xk;have h4:=hnxp k j ck c xB HZ hc;omega
     ·rw[hj]at BC;cases BC
     exact(M0 k ck HZ BC BE SX SY).2.1 β sE Xk
   rw[WY]at hb;have h3:=SM β b hb;have h4:=AR.nx;omega
  refine Ik hG hO hi Xj hX o Qh (fun γ h=>h) _ Q fun u w' ι' jA q1 q2 q3 q4=>?_;refine⟨ι',jA,q1.ext NW,fun t=>?_,by rw[Act.QA];exact bO,by rw[Act.put_defers];exact G1,(hevo.trans q2).ext NW⟩;rw[henv' t];exact(XA (fun t=>(Xj t).mono hi q2) bO hdo q3 t).ext NW
theorem ZE{p p' :Nat->Bool}{j:Nat}: ∀(l:List Nat),(∀ x,p' x=true->p x=true)->j∈l->p j=true->p' j=false->(l.filter p').length<(l.filter p).length
 |[],_,hj,_,_=>by simp at hj
 |x::r,hp,hj,h1,h2=>by
  have hle: ∀(l:List Nat),(l.filter p').length<=(l.filter p).length:=by
   intro l;induction l with
   |nil=>simp
   |cons y r ih=>
    simp only[List.filter_cons];cases h:p' y with
    |true=>rw[hp y h];simp;exact ih
    |false=>
     cases p y<;>simp<;>omega
  simp only[List.filter_cons];rcases List.mem_cons.1 hj with rfl|hj
  ·rw[h1,h2];have:=hle r;simp;omega
  have ih:=ZE r hp hj h1 h2;cases h:p' x with
  |true=>rw[hp x h];simp;exact ih
  |false=>cases p x<;>simp<;>omega
theorem any_ok{G:GP}{O:zS}(hG:vL P G)(hO:SoundCall P O){nt:Nat}{ops:Array Oper}(hd:WH nt ops.toList)(hdr:Z2 ops.toList=true){cs:List Rc}{s s' :St}{tm:Bool}
  (W5:bu G O ops.toList tm ops.toList cs s s') (SM: ∀β b,s.heap.get β=some b->β<s.nx) (lW:nk (wb [] ops.toList) (V7 0 cs [])=true)
  {w0:World} {ι0:vG} {oB:Nat->Prop} (Q:Exit->Act->World->Prop) (hq: ∀a w,RZ nt ops.toList cs s w0 ι0 oB (fun _=>true) a w->Q .normal a w):
  ∀(fuel:Nat)(yv:Array Bool)(a:Act)(w:World),yv.size=ops.size->N3 ops.toList (fun k=>yv.getD k false)->
   ((List.range ops.size).filter fun k=> !yv.getD k false).length<=fuel->RZ nt ops.toList cs s w0 ι0 oB (fun k=>yv.getD k false) a w->wpAny P .any ops Q fuel yv a w:=by
 have hfull: ∀(D:Nat->Bool)(a:Act)(w:World),(∀ k,k<ops.size->D k=true)->RZ nt ops.toList cs s w0 ι0 oB D a w->RZ nt ops.toList cs s w0 ι0 oB (fun _=>true) a w:=by
  intro D a w hD ⟨ι,Im,h1,h2,h3,h4,h5⟩;have hh: ∀γ,(kV cs 0 (fun _=>true) s.heap).get γ=(kV cs 0 D s.heap).get γ:=fun γ=>
   nM _ _ _ _ (fun k ck HZ _=>by
    have:k<ops.size:=by have:=W5.len;have:=(qF HZ).1;simp at *; omega
    simp[hD k this]) rfl
  refine⟨ι,Im,h1.ext hh,fun t=>?_,h3,h4,h5.ext hh⟩;rw[rQ (D' :=D) _ _ _ _ s.env (fun k ok sG _=>by
    have:k<ops.size:=by have:=(qF sG).1;simpa using this
    simp[hD k this]) rfl]
  exact(h2 t).ext hh
 intro fuel;induction fuel with
 |zero=>
  intro yv a w bO hcld hf h;have AQ: ∀k,k<ops.size->yv.getD k false=true:=by
   intro k hk;have h0:((List.range ops.size).filter fun k=> !yv.getD k false)=[]:=List.length_eq_zero_iff.1 (by omega);have:=List.filter_eq_nil_iff.1 h0 k (by simpa using hk);simpa using this
  refine⟨?_,hq a w (hfull _ a w AQ h)⟩;cases hr:Region.ready .any ops yv with
  |nil=>rfl
  |cons i r=>
   exfalso;have hi:i∈Region.ready .any ops yv:=by rw[hr];simp
   obtain⟨h1,o,ho,_⟩:=mem_ready.1 hi;have xB:i<ops.size:=(Array.getElem?_eq_some_iff.1 ho).1;have h2:=AQ i xB;simp[bO,xB]at h1 h2;rw[h1]at h2;cases h2
 |succ fuel ih=>
  intro yv a w bO hcld hf h;refine⟨fun hr=>?_,fun i hi=>?_⟩
  ·refine hq a w (hfull _ a w ?_ h);intro k;induction k using Nat.strongRecOn with
   |_ k UE=>
    intro hk;cases hD:yv.getD k false with
    |true=>rfl
    |false=>
     exfalso;have mE:k<ops.toList.length:=by simpa using hk
     have tQ:k∈Region.ready .any ops yv:=by
      refine mem_ready.2 ⟨?_,ops[k],by simp[hk],fun e he hb=>?_⟩
      ·simp[bO,hk]at hD |-;exact hD
      have xB:=HW (by simp only[Z2,zB]at hdr;exact hdr.1) (kU mE) (by simpa using he) hb;exact UE e.on xB (by omega)
     rw[hr]at tQ;simp at tQ
  obtain⟨h1,o,ho,h2⟩:=mem_ready.1 hi;have xB:i<ops.size:=(Array.getElem?_eq_some_iff.1 ho).1;have ho' :ops.toList[i]? =some o:=by rw[Array.getElem?_toList];exact ho
  have hDi:yv.getD i false=false:=by
   simp[bO,xB]at h1 |-;exact h1
  have nN:(fun k=>(yv.setIfInBounds i true).getD k false)=tK (fun k=>yv.getD k false) i:=by
   funext k;simp only[tK];by_cases hk:k=i
   ·subst hk;simp[bO,xB]
   simp[hk,Array.getElem?_setIfInBounds_ne (Ne.symm hk)]
  refine wpOp_mono (fun a' w' h' =>?_) (step_ok hG hO hd hdr W5 SM lW hcld ho' hDi h2 h Q);refine ih (yv.setIfInBounds i true) a' w' (by simpa using bO) ?_ ?_ (by rw[nN];exact h')
  ·rw[nN];intro j oj hoj hDj e he hb;simp only[tK,Bool.or_eq_true,decide_eq_true_eq]at hDj |-;rcases hDj with rfl|hDj
   ·rw[ho']at hoj;cases hoj;exact .inr (h2 e he hb)
   exact .inr (hcld j oj hoj hDj e he hb)
  have:=ZE (p:=fun k=> !yv.getD k false) (p' :=fun k=> !(yv.setIfInBounds i true).getD k false) (j:=i) (List.range ops.size) (fun x hx=>?_) (by simpa using xB) (by simpa using hDi) ?_
  ·omega
  ·have oh:(yv.setIfInBounds i true).getD x false=tK (fun k=>yv.getD k false) i x:=congrFun nN x;rw[oh]at hx;simp only[tK,Bool.not_eq_true',Bool.or_eq_false_iff]at hx;simp only[hx.2,Bool.not_false]
  have oh:(yv.setIfInBounds i true).getD i false=tK (fun k=>yv.getD k false) i i:=congrFun nN i;rw[oh];simp[tK]
theorem P9{G:GP}{O:zS}(hm:P.follows .mixedOrders=true)(hG:vL P G)(hO:SoundCall P O){nt:Nat}(id:Nat)(ops:Array Oper)(hd:WH nt ops.toList)(hdr:Z2 ops.toList=true)
  {a:Act} {s s' :St} (h:Inv w a s ι Im nt) {tm:Bool} (hr:cA G O ops.toList tm 0 ops.toList s []=some s') (Q:Exit->Act->World->Prop)
  (hq: ∀a' w',dL w s.heap ι Im nt s' a' w' ->Q .normal a' w'):(Code.region id ops true).wp P Q a w:=by
 obtain⟨cs,W5,lW⟩:=iq ops.toList hr;obtain⟨q1,q2,q3,q4,_,_⟩:=Z1 W5 h.nx 0;refine wp_region_any hm ?_;have NV:({ w with drawn:=w.drawn+1 }:World).heap=w.heap:=rfl;have WY:(fun k=>(Array.replicate ops.size false).getD k false)=fun _=>false:=by
  funext k;simp[Array.getElem?_replicate];split<;>rfl
 refine any_ok hG hO hd hdr W5 h.nx lW (w0:=w) (ι0:=ι) (oB:=Im) Q (fun a' w' h' =>?_) ops.size _ a _ (by simp) ?_ ?_ ?_
 ·obtain⟨ι',jA,p1,p2,p3,p4,p5⟩:=h';rw[<- q2]at p1 p2 p5;rw[<- q1]at p2;exact hq a' w' ⟨ι',jA,⟨p1,p2,q4,p3,p4⟩,p5⟩
 ·rw[WY];intro j o _ hj;cases hj
 ·have:=List.length_filter_le (fun k=> !(Array.replicate ops.size false).getD k false) (List.range ops.size);simpa using this
 rw[WY];refine⟨ι,Im, ?_,fun t=>?_,h.size,h.defers, ?_⟩
 ·rw[np _ _ _ _ fun _ _=>rfl];exact h.heap.yu NV ⟨rfl,rfl⟩
 ·rw[np _ _ _ _ fun _ _=>rfl,ed _ _ _ _ _ fun _ _=>rfl];exact(h.env t).yu NV ⟨rfl,rfl⟩ h.heap
 rw[np _ _ _ _ fun _ _=>rfl];exact w8.yu NV ⟨rfl,rfl⟩
end
def vN:Code->List Nat
 | .seq a b=>vN a++vN b
 | .block id (.loop c)=>id::vN c
 | .block _ c=>vN c
 | .cond _ a b=>vN a++vN b
 | .loop c=>vN c
 |_=>[]
def i4(id:Nat)(b:Code):Code->Prop
 | .seq x y=>i4 id b x\/i4 id b y
 | .block i (.loop c)=>(i=id/\c=b)\/i4 id b c
 | .block _ c=>i4 id b c
 | .cond _ x y=>i4 id b x\/i4 id b y
 | .loop c=>i4 id b c
 |_=>False
theorem YJ{id:Nat}{b:Code}: ∀{c:Code},i4 id b c->id∈vN c:=by
 intro c
 fun_induction vN c with
 |case1 x y lz Zb=>
  intro h;simp only[i4]at h;simp only[List.mem_append];exact h.imp lz Zb
 |case2 i c ih=>
  intro h;simp only[i4]at h;rcases h with ⟨rfl,_⟩|h
  ·simp
  simp[ih h]
 |case3 i c hc ih=>
  intro h;refine ih ?_;cases c<;>first|exact absurd rfl (hc _)|exact h
 |case4 o x y lz Zb=>
  intro h;simp only[i4]at h;simp only[List.mem_append];exact h.imp lz Zb
 |case5 c ih=>
  intro h;exact ih (by simpa only[i4]using h)
 |case6 c h1 h2 h3 h4 h5=>
  intro h;cases c<;>simp_all [i4]
theorem oY{id:Nat}: ∀{c:Code},id∉vN c->zv c id=none:=by
 intro c
 fun_induction vN c with
 |case1 x y lz Zb=>
  intro h;simp only[List.mem_append,not_or]at h;simp[zv,lz h.1,Zb h.2]
 |case2 i c ih=>
  intro h;simp only[List.mem_cons,not_or]at h;simp[zv,ih h.2,Ne.symm h.1]
 |case3 i c hc ih=>
  intro h;have:=ih h;cases c<;>first|exact absurd rfl (hc _)|exact this
 |case4 o x y lz Zb=>
  intro h;simp only[List.mem_append,not_or]at h;simp[zv,lz h.1,Zb h.2]
 |case5 c ih=>
  intro h;simpa only[zv]using ih h
 |case6 c h1 h2 h3 h4 h5=>
  intro h;cases c<;>simp_all [zv]
theorem Yd{id:Nat}{b:Code}: ∀{c:Code},(vN c).Nodup->i4 id b c->zv c id=some b:=by
 intro c
 fun_induction vN c with
 |case1 x y lz Zb=>
  intro hn h;rw[List.nodup_append]at hn;simp only[i4]at h;simp only[zv];rcases h with h|h
  ·rw[lz hn.1 h]
  have h1:id∉vN x:=fun hx=>hn.2.2 id hx id (YJ h) rfl;rw[oY h1];exact Zb hn.2.1 h
 |case2 i c ih=>
  intro hn h;rw[List.nodup_cons]at hn;simp only[i4]at h;simp only[zv];rcases h with ⟨rfl,rfl⟩|h
  ·simp
  have:i≠id:=fun e=>hn.1 (e ▸ YJ h);rw[if_neg this];exact ih hn.2 h
 |case3 i c hc ih=>
  intro hn h;cases c<;>first|exact absurd rfl (hc _)|exact ih hn h
 |case4 o x y lz Zb=>
  intro hn h;rw[List.nodup_append]at hn;simp only[i4]at h;simp only[zv];rcases h with h|h
  ·rw[lz hn.1 h]
  have h1:id∉vN x:=fun hx=>hn.2.2 id hx id (YJ h) rfl;rw[oY h1];exact Zb hn.2.1 h
 |case5 c ih=>
  intro hn h;simpa only[zv]using ih hn (by simpa only[i4]using h)
 |case6 c h1 h2 h3 h4 h5=>
  intro hn h;cases c<;>simp_all [i4]
def uy(nt:Nat):Code->Bool
 | .region _ ops d=>opsOK nt ops.toList&&(!d || Z2 ops.toList)
 | .seq a b=>uy nt a&&uy nt b
 | .cond _ a b=>uy nt a&&uy nt b
 | .block _ c=>uy nt c
 | .loop c=>uy nt c
 |_=>true
section
variable [zN] {P:Program} {w:World} {H:qn} {ι:vG} {Im:Nat->Prop}
theorem Tb{G:GP}{O:zS}(hm:P.follows .mixedOrders=true)(hG:vL P G)(hO:Sound P G O)(f:FuncId)(fi:FI)(Z4:G.fn f=some fi)(DL:(vN fi.body).Nodup):
  ∀(c:Code),uy fi.nt c=true->(∀ id b,i4 id b c->i4 id b fi.body)-> ∀{w:World}{ι:vG}{Im:Nat->Prop}{a:Act}{s s' :St}{ex:Ex},Inv w a s ι Im fi.nt->
   exec G O f c s=some (ex,s')->c.wp P (fun e a' w' =>e=ex.HR/\dL w s.heap ι Im fi.nt s' a' w') a w:=by
 intro c;induction c with
 |skip=>
  intro _ _ w ι Im a s s' ex h hr;simp only[exec,kX,Prod.mk.injEq]at hr;obtain⟨rfl,rfl⟩:=hr;exact wp_skip ⟨rfl,ι,Im,h,w8.refl _ _ _ _⟩
 |region id ops d=>
  intro sG _ w ι Im a s s' ex h hr;simp only[uy,zB]at sG;cases d with
  |false=>
   simp only[exec]at hr;split at hr<;>cases hr;rename_i hs;obtain⟨ι1,aU,h1,e1⟩:=Xy (G.cmd f (2*id)) h;exact CZ hG hO.toSoundCall id ops (K4 sG.1) h1 hs _ fun a' w' dI=>⟨rfl,(dI.from e1).post _⟩
  |true=>
   simp only[exec]at hr;split at hr<;>cases hr;rename_i hs;obtain⟨ι0,oB,h0,e0⟩:=Xy (G.cmd f (2*id)) h;obtain⟨aU,h1,e1⟩:=mM (sI (mg (G.cmd f (2*id)) s).env (mg (G.cmd f (2*id)) s).heap (G.pre f id)) h0;exact P9 hm hG hO.toSoundCall id ops (K4 sG.1) (by simpa using sG.2) h1 hs _ fun a' w' dI=>⟨rfl,(dI.from (e0.trans e1)).post _⟩
 |seq x y lz Zb=>
  intro sG W9 w ι Im a s s' ex h hr;simp only[uy,zB]at sG;simp only[exec]at hr;refine wp_seq ?_;split at hr
  ·rename_i s1 nh;refine wp_mono (lz sG.1 (fun id b ho=>W9 id b (by simp only[i4];exact .inl ho)) h nh) fun e a1 w1⟨he,ι1,aU,h1,e1⟩=>?_;subst he;refine wp_mono (Zb sG.2 (fun id b ho=>W9 id b (by simp only[i4];exact .inr ho)) h1 hr) fun e a2 w2⟨he,dI⟩=>⟨he,dI.from e1⟩
  ·rename_i s1 nh;cases hr;refine wp_mono (lz sG.1 (fun id b ho=>W9 id b (by simp only[i4];exact .inl ho)) h nh) fun e a1 w1⟨he,dI⟩=>?_;subst he;exact⟨rfl,dI⟩
  ·rename_i i s1 nh;cases hr;refine wp_mono (lz sG.1 (fun id b ho=>W9 id b (by simp only[i4];exact .inl ho)) h nh) fun e a1 w1⟨he,dI⟩=>?_;subst he;exact⟨rfl,dI⟩
  cases hr
 |cond o x y lz Zb=>
  intro sG W9 w ι Im a s s' ex h hr;simp only[uy,zB]at sG;simp only[exec]at hr;split at hr;rotate_left
  ·cases hr
  rename_i b hb;have hv:=oX h.env o;rw[hb]at hv;have hp:=hv.uB;generalize hvo:a.eval o=vo at hp;cases hp;refine wp_cond hvo ?_;cases b with
  |true=>exact lz sG.1 (fun id b ho=>W9 id b (by simp only[i4];exact .inl ho)) h hr
  |false=>exact Zb sG.2 (fun id b ho=>W9 id b (by simp only[i4];exact .inr ho)) h hr
 |block id c ih=>
  intro sG W9 w ι Im a s s' ex h hr;simp only[uy]at sG;refine wp_block ?_;by_cases hl: ∃b,c= .loop b
  ·obtain⟨b,rfl⟩:=hl;simp only[exec]at hr;split at hr;rotate_left
   ·cases hr
   rename_i s1 nh;obtain⟨ι1,aU,h1,e1,xB⟩:=Sx (G.spec f id) h nh;have Z5:=Yd DL (W9 id b (by simp[i4]));obtain⟨jv,n,hwp⟩:=hO.loop f id _ ex s' hr fi b Z4 Z5;refine wp_mono (wp_loop_rounds n (hwp w ι1 aU a h1)) fun e a' w'⟨he,dI⟩=>?_;have AP:dL w s.heap ι Im fi.nt s' a' w' :=by
    obtain⟨ι2,Uz,k1,k2⟩:=dI.from e1;exact⟨ι2,Uz,k1,k2.full xB⟩
   cases ex with
   |normal=>
    simp only at he;subst he;simp only[Exit.inBlock,if_true];exact⟨rfl,AP⟩
   |ret=>
    simp only at he;subst he;exact⟨rfl,AP⟩
   |exit i=>
    simp only at he;subst he;simp only[Exit.inBlock,jv i rfl,if_false];exact⟨rfl,AP⟩
  have hex:exec G O f (.block id c) s=match exec G O f c s with
   |some (.exit i,s')=>if i=id then some (.normal,s')else some (.exit i,s')
   |some (.normal,s')=>some (.normal,s')
   |some (.ret,s')=>some (.ret,s')
   |none=>none:=by
   cases c<;>first|rfl|exact absurd ⟨_,rfl⟩ hl
  rw[hex]at hr;have Ea: ∀id b,i4 id b c->i4 id b fi.body:=fun i b ho=>W9 i b (by
   cases c<;>first|exact absurd ⟨_,rfl⟩ hl|(simp only[i4];exact ho))
  split at hr
  ·rename_i i s1 nh;refine wp_mono (ih sG Ea h nh) fun e a' w'⟨he,dI⟩=>?_;subst he;by_cases hi:i=id
   ·rw[if_pos hi]at hr;cases hr;simp only[Ex.HR,Exit.inBlock,if_pos hi];exact⟨trivial,dI⟩
   rw[if_neg hi]at hr;cases hr;simp only[Ex.HR,Exit.inBlock,if_neg hi];exact⟨trivial,dI⟩
  ·rename_i s1 nh;cases hr;refine wp_mono (ih sG Ea h nh) fun e a' w'⟨he,dI⟩=>?_;subst he;exact⟨rfl,dI⟩
  ·rename_i s1 nh;cases hr;refine wp_mono (ih sG Ea h nh) fun e a' w'⟨he,dI⟩=>?_;subst he;exact⟨rfl,dI⟩
  cases hr
 |exit id=>
  intro _ _ w ι Im a s s' ex h hr;simp only[exec,kX,Prod.mk.injEq]at hr;obtain⟨rfl,rfl⟩:=hr;exact wp_exit ⟨rfl,ι,Im,h,w8.refl _ _ _ _⟩
 |ret=>
  intro _ _ w ι Im a s s' ex h hr;simp only[exec,kX,Prod.mk.injEq]at hr;obtain⟨rfl,rfl⟩:=hr;exact wp_ret ⟨rfl,ι,Im,h,w8.refl _ _ _ _⟩
 |_=>intro _ _ w ι Im a s s' ex h hr;simp[exec]at hr
end
theorem iE{i id:Nat}{c:Code}(h: ∀b,c≠ .loop b):zv (.block i c) id=zv c id:=by
 cases c<;>first|rfl|exact absurd rfl (h _)
theorem Xg{nt:Nat}{id:Nat}{b:Code}: ∀{c:Code},uy nt c=true->zv c id=some b->uy nt b=true:=by
 intro c;induction c with
 |seq x y lz Zb=>
  intro h hf;simp only[uy,zB]at h;simp only[zv]at hf;split at hf
  ·rename_i c0 hx;cases hf;exact lz h.1 hx
  exact Zb h.2 hf
 |block i c ih=>
  intro h hf;by_cases hl: ∃x,c= .loop x
  ·obtain⟨x,rfl⟩:=hl;simp only[uy]at h ih;simp only[zv]at hf ih;split at hf
   ·cases hf;exact h
   exact ih h hf
  rw[iE fun x e=>hl ⟨x,e⟩]at hf;exact ih (by simpa only[uy]using h) hf
 |cond o x y lz Zb=>
  intro h hf;simp only[uy,zB]at h;simp only[zv]at hf;split at hf
  ·rename_i c0 hx;cases hf;exact lz h.1 hx
  exact Zb h.2 hf
 |loop c ih=>
  intro h hf;simp only[uy]at h;simp only[zv]at hf;exact ih h hf
 |_=>intro h hf;simp[zv]at hf
theorem Ye{id:Nat}{b:Code}: ∀{c:Code},zv c id=some b-> ∀i x,i4 i x b->i4 i x c:=by
 intro c;induction c with
 |seq x y lz Zb=>
  intro hf i z hz;simp only[zv]at hf;simp only[i4];split at hf
  ·rename_i c0 hx;cases hf;exact .inl (lz hx i z hz)
  exact .inr (Zb hf i z hz)
 |block j c ih=>
  intro hf i z hz;by_cases hl: ∃x,c= .loop x
  ·obtain⟨x,rfl⟩:=hl;simp only[zv]at hf ih;simp only[i4]at ih |-;split at hf
   ·cases hf;exact .inr hz
   exact .inr (ih hf i z hz)
  rw[iE fun x e=>hl ⟨x,e⟩]at hf;have:=ih hf i z hz;cases c<;>first|exact absurd ⟨_,rfl⟩ hl|exact this
 |cond o x y lz Zb=>
  intro hf i z hz;simp only[zv]at hf;simp only[i4];split at hf
  ·rename_i c0 hx;cases hf;exact .inl (lz hx i z hz)
  exact .inr (Zb hf i z hz)
 |loop c ih=>
  intro hf i z hz;simp only[zv]at hf;simp only[i4];exact ih hf i z hz
 |_=>intro hf;simp[zv]at hf
structure RX (P:Program) (G:GP):Prop where
 fn: ∀f fi,G.fn f=some fi-> ∃fn,P.funcs[f]? =some fn/\(fn.name== "runtime.NumGoroutine")=false/\fn.body=some fi.body/\fn.ntmps=fi.nt/\fn.results.toList=fi.results/\
  uy fi.nt fi.body=true/\(vN fi.body).Nodup
section
variable [zN] {P:Program} {w:World} {H:qn} {ι:vG} {Im:Nat->Prop}
theorem loop_ok{G:GP}{O:zS}(hm:P.follows .mixedOrders=true)(hG:vL P G)(hF:RX P G)(hO:Sound P G O){f:FuncId}{id:Nat}{s s' :St}{ex:Ex}
  (hr:nu G O f id s=some (ex,s')):FQ P G f id s ex s' :=by
 intro fi c Z4 hc;obtain⟨fn,_,_,_,_,_,sG,DL⟩:=hF.fn f fi Z4;have Tf: ∀{w:World}{ι:vG}{Im:Nat->Prop}{a:Act}{s s' :St}{ex:Ex},Inv w a s ι Im fi.nt->exec G O f c s=some (ex,s')->
   c.wp P (fun e a' w' =>e=ex.HR/\dL w s.heap ι Im fi.nt s' a' w') a w:=
  fun h hr=>Tb hm hG hO f fi Z4 DL c (Xg sG hc) (Ye hc) h hr
 unfold nu at hr;rw[Z4]at hr;simp only[hc]at hr;split at hr
 ·rename_i s1 nh;split at hr;rotate_left
  ·cases hr
  rename_i s2 DN;obtain⟨jv,n,hn⟩:=hO.loop f id s2 ex s' hr fi c Z4 hc;refine⟨jv,n+1,fun w ι Im a h=>?_⟩;rw[rounds_succ];refine wp_mono (Tf h nh) fun e a' w'⟨he,ι1,aU,h1,e1⟩=>?_;subst he;obtain⟨Uz,h1,e2⟩:=mM (sI s1.env s1.heap (G.spec f id).freeze) h1;obtain⟨ι2,h2,e2,xt⟩:=A9 (G.spec f id) h1 h.nx (e1.trans e2) DN;have Tj: ∀(n:Nat){Q Q' :Exit->Act->World->Prop}{a:Act}{w:World},(∀ e a w,Q e a w->Q' e a w)->Code.rounds P c Q n a w->Code.rounds P c Q' n a w:=by
   intro n;induction n with
   |zero=>intro Q Q' a w _ h;exact h
   |succ n ih=>
    intro Q Q' a w hq h;rw[rounds_succ]at h |-;refine wp_mono h fun e a w he=>?_;cases e<;>first|exact ih hq he|exact hq _ _ _ he
  exact Tj n (fun e a w ⟨q1,q2⟩=>⟨q1,(q2.YB xt).from e2⟩) (hn _ _ _ _ h2)
 ·rename_i i s1 nh;by_cases hi:i=id
  ·rw[if_pos hi]at hr;obtain⟨G4,rfl⟩:=Ze hr;refine⟨fun i h=>(by cases h),1,fun w ι Im a h=>?_⟩;rw[rounds_succ];refine wp_mono (Tf h nh) fun e a' w'⟨he,ι1,aU,h1,e1⟩=>?_;subst he;obtain⟨ι2,h2,e2⟩:=JU (G.spec f id) h1 h.nx e1 G4;exact⟨by rw[<- hi];rfl,_,_,h2,e2⟩
  rw[if_neg hi]at hr;obtain⟨G4,rfl⟩:=Ze hr;refine⟨fun j h=>(by cases h;exact hi),1,fun w ι Im a h=>?_⟩;rw[rounds_succ];refine wp_mono (Tf h nh) fun e a' w'⟨he,ι1,aU,h1,e1⟩=>?_;subst he;obtain⟨ι2,h2,e2⟩:=JU (G.spec f id) h1 h.nx e1 G4;exact⟨rfl,_,_,h2,e2⟩
 ·rename_i s1 nh;obtain⟨G4,rfl⟩:=Ze hr;refine⟨fun i h=>(by cases h),1,fun w ι Im a h=>?_⟩;rw[rounds_succ];refine wp_mono (Tf h nh) fun e a' w'⟨he,ι1,aU,h1,e1⟩=>?_;subst he;obtain⟨ι2,h2,e2⟩:=JU (G.spec f id) h1 h.nx e1 G4;exact⟨rfl,_,_,h2,e2⟩
 cases hr
theorem EK{ti:TI}{x r:AV}{v:Value}(hx:RA w H ι Im x v)(hr:oO ti x H=some r): ∃a,v= .pointer (some a):=by
 unfold oO at hr;split at hr
 ·cases hx;exact⟨_,rfl⟩
 ·cases hx;exact⟨_,rfl⟩
 ·cases hx;exact⟨_,rfl⟩
 ·cases hx with|pv _ _ h=>cases h;exact⟨_,rfl⟩
 cases hr
def D1(tmps:Array Value):ResultVar->Sem Value
 | .tmp t=>pure (tmps.getD t undef)
 | .cell a t=>do loadVar t (<- asAddr (tmps.getD a undef))
theorem Pb(fn:Func)(tmps:Array Value):results fn tmps=(do
  let vs <-fn.results.mapM (D1 tmps)
  pure (if h:vs.size=1 then vs[0]else .tuple vs)):=by
 unfold results;rfl
theorem Oi{G:GP}(hG:vL P G){a:Act}{s:St}{nt:Nat}(h:Inv w a s ι Im nt){rv:ResultVar}{x:AV}(hr:VH G s rv=some x):
  ∃v,(D1 a.tmps rv).run P w= .ok v w/\RA w s.heap ι Im x v:=by
 cases rv with
 |tmp t=>
  simp only[VH,kX]at hr;subst hr;exact⟨_,by simp only[D1,Sem.run_pure],h.env t⟩
 |cell b t=>
  simp only[VH]at hr;split at hr;rotate_left
  ·cases hr
  rename_i ti i6;obtain⟨ad,had⟩:=EK (h.env b) hr;obtain⟨u,h1,h2⟩:=Hm (hG t ti i6) h.heap (h.env b) hr;refine⟨u, ?_,h2⟩;rw[had]at h1;simp only[Instr.loadAt,Instr.sureAddr,pure_bind]at h1;simp only[D1,had,asAddr,pure_bind];exact h1
theorem VG{G:GP}(hG:vL P G){a:Act}{s:St}{nt:Nat}(h:Inv w a s ι Im nt): ∀{rs:List ResultVar}{xs:List AV},dx G s rs=some xs->
  ∃vs:List Value,(rs.mapM (D1 a.tmps)).run P w= .ok vs w/\xs.length=vs.length/\ ∀(i:Nat) x v,xs[i]? =some x->vs[i]? =some v->RA w s.heap ι Im x v
 |[],xs,hr=>by
  simp only[dx,kX]at hr;subst hr;exact⟨[],by simp,rfl,by simp⟩
 |r::l,xs,hr=>by
  simp only[dx]at hr;split at hr;rotate_left
  ·cases hr
  rename_i v vs h1 h2;cases hr;obtain⟨u,q1,q2⟩:=Oi hG h h1;obtain⟨us,q3,q4,q5⟩:=VG hG h h2;refine⟨u::us, ?_,by simp[q4],fun i x v hx hv=>?_⟩
  ·rw[List.mapM_cons];simp only[ji,q1,q3,gm,Sem.run_pure]
  cases i with
  |zero=>simp at hx hv;subst hx;subst hv;exact q2
  |succ i=>simp at hx hv;exact q5 i x v hx hv
theorem Pc{G:GP}(hG:vL P G){fn:Func}{a:Act}{s:St}{nt:Nat}(h:Inv w a s ι Im nt){xs:List AV}(hr:dx G s fn.results.toList=some xs):
  ∃v,(results fn a.tmps).run P w= .ok v w/\RA w s.heap ι Im (o4 xs) v:=by
 obtain⟨vs,h1,h2,h3⟩:=VG hG h hr;rw[Pb,Array.mapM_eq_mapM_toList];have h1' :(Functor.map List.toArray (fn.results.toList.mapM (D1 a.tmps)):Sem (Array Value)).run P w= .ok vs.toArray w:=by
  rw[map_eq_pure_bind,ji,h1,gm,Sem.run_pure]
 rw[ji,h1',gm,Sem.run_pure];refine⟨_,rfl, ?_⟩;split
 ·rename_i hs;obtain⟨v,rfl⟩: ∃v,vs=[v]:=by
   cases vs with
   |nil=>simp at hs
   |cons v r=>cases r with
    |nil=>exact⟨v,rfl⟩
    |cons _ _=>simp at hs
  obtain⟨x,rfl⟩: ∃x,xs=[x]:=by
   cases xs with
   |nil=>simp at h2
   |cons v r=>cases r with
    |nil=>exact⟨v,rfl⟩
    |cons _ _=>simp at h2
  exact h3 0 x v rfl rfl
 rename_i hs;have:o4 xs= .xS xs:=by
  unfold o4;split
  ·exfalso;apply hs;simpa using h2.symm
  rfl
 rw[this];exact .xS xs vs h2 h3
theorem Hw: ∀{args:List AV}{vs:List Value}(k:Nat),args.length=vs.length->(∀(i:Nat) x v,args[i]? =some x->vs[i]? =some v->RA w H ι Im x v)->
  ∀t,(pJ k args).get t= .undef\/ ∃i x v,t=k+i/\args[i]? =some x/\vs[i]? =some v/\(pJ k args).get t=x
 |[],vs,k,_,_,t=> .inl rfl
 |x::r,[],k,h,_,t=>by simp at h
 |x::r,v::us,k,hl,h,t=>by
  simp only[pJ,vF.get];split
  ·rename_i e;exact .inr ⟨0,x,v,by omega,rfl,rfl,rfl⟩
  rcases Hw (args:=r) (vs:=us) (k+1) (by simpa using hl) (fun i x v h1 h2=>h (i+1) x v (by simpa using h1) (by simpa using h2)) t with g|⟨i,y,u,e,g1,g2,g3⟩
  ·exact .inl g
  exact .inr ⟨i+1,y,u,by omega,by simpa using g1,by simpa using g2,g3⟩
theorem unz_ok{x:AV}{v:Value}(h:RA w H ι Im x v):RA w H ι Im (unz x) v:=by
 cases h with
 |aT a=>
  exact .pv _ _ (.sl 0 [] a.block a.off 0 (fun _=>undef) (fun h=>absurd rfl h) (by simp) (by simp) (by simp) (by simp) (by simp) a.spot (fun h=>absurd rfl h))
 |undef v=>exact .undef v
 |pv p v h=>exact .pv p v h
 |ptr β o c hb hk=>exact .ptr β o c hb hk
 |yT β zF i o b1 o1 b hb xU h=>exact .yT β zF i o b1 o1 b hb xU h
 |row β zF off n v b ho hb hk xU h=>exact .row β zF off n v b ho hb hk xU h
 |mR c o b off vs oI hc hf h=>exact .mR c o b off vs oI hc hf h
 |map β es zI hb=>exact .map β es zI hb
 |lp f a b va vb W8 Ti ha hb=>exact .lp f a b va vb W8 Ti ha hb
 |agg c vs hl hf h=>exact .agg c vs hl hf h
 |xS c vs hl h=>exact .xS c vs hl h
theorem sub_evo{w0:World}{H0:qn}{ι0:vG}{oB:Nat->Prop}{L:List Nat}{H' :qn}(hs:Q0 H L H')(he:w8 w0 H0 ι0 oB w H ι Im){m:Nat}{r:List Nat}(hL:L=List.range m++r)
  (hm: ∀β b,H0.get β=some b->β<m):w8 w0 H0 ι0 oB w H' (lM ι L) Im where
 comp:=fun β b hb=>by
  obtain⟨b',q1,q2⟩:=he.comp β b hb;have hl:L[β]? =some β:=by rw[hL];exact Vs m r (hm β b hb)
  refine⟨b'.rE (pos L),by rw[hs.look,hl];simp[q1], ?_⟩;have:lM ι L β=ι β:=by simp[lM,hl]
  rw[this];exact Zy _ q2
 im:=he.im
 mr:=he.mr
 bC:=fun γ x z hx hu=>by
  obtain⟨β,b0,h1,h2,rfl,h4⟩:=hs.inv (ι:=ι) hx;rw[qC.bJ,h4]at hu;exact he.bC β b0 z h2 hu
 ka:=he.ka
 size:=he.size
 io:=he.io
theorem SE{w0:World}{H0:qn}{ι0:vG}{oB:Nat->Prop}{a:Act}{s:St}{nt:Nat}(h:Inv w a s ι Im nt){x:AV}{u:Value}(hx:RA w s.heap ι Im x u)
  (he:w8 w0 H0 ι0 oB w s.heap ι Im) {m:Nat} (hm: ∀β b,H0.get β=some b->β<m) {tA:Bool} {r:AV} {H' :qn} (hr:finish m tA x s=some (r,H')):
  ∃ι' jA,qW w H' ι' jA/\w8 w0 H0 ι0 oB w H' ι' jA/\RA w H' ι' jA r u:=by
 have hinv:Inv w ⟨#[u],[]⟩ { s with env:=[(0,x)] } ι Im 0:=by
  refine⟨h.heap,fun t=>?_,h.nx,Nat.zero_le _,rfl⟩;cases t with
  |zero=>simpa[vF.get]using hx
  |succ t=>simp only[vF.get];rw[if_neg (by omega)];exact .undef _
 have key: ∀{s1:St}{aU:Nat->Prop},Inv w ⟨#[u],[]⟩ s1 ι aU 0->w8 w s.heap ι Im w s1.heap ι aU->(match tu s1.heap (List.range m) (unz (s1.env.get 0)).refs with
   |some (L,H)=>some ((unz (s1.env.get 0)).rE (pos L),H)
   |none=>none)=some (r,H')-> ∃ι' jA,qW w H' ι' jA/\w8 w0 H0 ι0 oB w H' ι' jA/\RA w H' ι' jA r u:=by
  intro s1 aU h1 e1 hr;split at hr<;>cases hr;rename_i L iK;obtain⟨hs,JK,rr,hL⟩:=eI List.nodup_range iK;refine⟨lM ι L,aU,hs.hinv h1.heap,sub_evo hs (he.trans e1) hL hm, ?_⟩;have hv:=unz_ok (h1.env 0);simp only[Array.getD]at hv;exact lF _ hv fun β hβ b hb=>hs.HK (JK β hβ) b hb
 unfold finish at hr;cases tA with
 |true=>
  simp only[if_true]at hr;exact key hinv (w8.refl _ _ _ _) hr
 |false=>
  simp only[w9,if_false]at hr;obtain⟨aU,h1,e1⟩:=mM x.rows hinv;exact key h1 e1 hr
theorem Oq{G:GP}{O:zS}(hm:P.follows .mixedOrders=true)(hG:vL P G)(hF:RX P G)(hO:Sound P G O){f:FuncId}{args:List AV}{H:qn}{r:AV}{H' :qn}
  (hr:iV G O f args H=some (r,H')):enters P f/\ic P f args H r H' :=by
 unfold iV at hr;split at hr
 ·cases hr
 rename_i fi Z4;obtain⟨fn,g1,g2,g3,g4,g5,sG,DL⟩:=hF.fn f fi Z4;refine⟨⟨fn,g1,g2,by rw[g3];rfl⟩,fun w ι Im vs hi hl hR=>?_⟩;split at hr;rotate_left
 ·cases hr
 rename_i hk;have xB: ∀β b,H.get β=some b->β<H.length:=fun β b hb=>by
  have:=(tV H 0 hk hb).2;omega
 have hinv:Inv w { tmps:=(⟨vs⟩:Array Value)++Array.replicate (fn.ntmps-(⟨vs⟩:Array Value).size) undef,defers:=[] } ⟨pJ 0 args,H,H.length⟩ ι Im fi.nt:=by
  refine⟨hi,fun t=>?_,xB, ?_,rfl⟩
  ·simp only;rcases Hw 0 hl hR t with h|⟨i,x,v,e,h1,h2,h3⟩
   ·rw[h];exact .undef _
   rw[h3];have:t=i:=by omega
   subst this;have ht:t<vs.length:=(qF h2).1;have:(((⟨vs⟩:Array Value)++Array.replicate (fn.ntmps-(⟨vs⟩:Array Value).size) undef).getD t undef)=v:=by
    rw[Array.getD_eq_getD_getElem?,Array.getElem?_append_left (by simpa using ht)];simp only[List.getElem?_toArray,h2,Option.getD_some]
   rw[this];exact hR t x v h1 h2
  simp only[Array.size_append,Array.size_replicate];omega
 have hwp: ∀{s s' :St}{ex:Ex}{w:World}{ι:vG}{Im:Nat->Prop}{a:Act},Inv w a s ι Im fi.nt->exec G O f fi.body s=some (ex,s')->
   fi.body.wp P (fun e a' w' =>e=ex.HR/\dL w s.heap ι Im fi.nt s' a' w') a w:=
  fun h hr=>Tb hm hG hO f fi Z4 DL fi.body sG (fun _ _ h=>h) h hr
 have close: ∀{s:St}{ex:Ex},exec G O f fi.body ⟨pJ 0 args,H,H.length⟩=some (ex,s)->(ex= .normal\/ex= .ret)->(match dx G (mg (G.cmd f 999999) s) fi.results with
   |some vs=>finish H.length (G.tA f) (o4 vs) (mg (G.cmd f 999999) s)
   |none=>none)=some (r,H')->Calls P f ⟨vs⟩ w fun e w' => ∃v ι' jA,e= .returned v/\qW w' H' ι' jA/\w8 w H ι Im w' H' ι' jA/\RA w' H' ι' jA r v:=by
  intro s ex hs hex hr;split at hr;rotate_left
  ·cases hr
  rename_i xs hxs;refine calls_of_wp g1 g3 (wp_mono (hwp hinv hs) fun e a' w'⟨he,dI⟩=>?_);obtain⟨ι1,aU,h1,e1⟩:=dI.post (G.cmd f 999999);subst he;rw[<- g5]at hxs;obtain⟨v,q1,q2⟩:=Pc hG h1 hxs;obtain⟨ι2,Uz,k1,k2,k3⟩:=SE h1 q2 e1 xB hr;rcases hex with rfl|rfl
  ·exact⟨h1.defers,v,q1,v,ι2,Uz,rfl,k1,k2,k3⟩
  exact⟨h1.defers,v,q1,v,ι2,Uz,rfl,k1,k2,k3⟩
 split at hr
 ·cases hr
 ·rename_i ex s jv hs;refine close hs ?_ hr;cases ex with
  |normal=>exact .inl rfl
  |ret=>exact .inr rfl
  |exit i=>exact absurd rfl (jv i)
 cases hr
def o8[zN](P:Program)(S:nI):Prop:= ∀f g,S.call f=some g-> ∀args H r H',g args H=some (r,H')->enters P f/\ic P f args H r H'
theorem Io[zN]{G:GP}{S:nI}(hm:P.follows .mixedOrders=true)(hG:vL P G)(hF:RX P G)(hS:o8 P S): ∀n,Sound P G (K7 G S n)
 |0=>⟨⟨fun _ _ _ _ _ h=>by simp[K7]at h⟩,fun _ _ _ _ _ h=>by simp[K7]at h⟩
 |n+1=>by
  have ih:=Io hm hG hF hS n;refine⟨⟨fun f args H r H' h=>?_⟩,fun f id s ex s' h=>?_⟩
  ·simp only[K7]at h;split at h
   ·rename_i g hg;exact hS f g hg args H r H' h
   exact Oq hm hG hF ih h
  simp only[K7]at h;exact loop_ok hm hG hF ih h
end
def Ends(p:Nat->Prop):Prop:= ∃n,∀ m,n<=m->p m
theorem Ends.and{p q:Nat->Prop}(h1:Ends p)(h2:Ends q):Ends fun m=>p m/\q m:=
 let⟨a,ha⟩:=h1
 let⟨b,hb⟩:=h2
 ⟨max a b,fun m hm=>⟨ha m (by omega),hb m (by omega)⟩⟩
theorem Ends.mono{p q:Nat->Prop}(h: ∀m,p m->q m)(h1:Ends p):Ends q:=
 let⟨a,ha⟩:=h1
 ⟨a,fun m hm=>h m (ha m hm)⟩
theorem Ends.of{p:Prop}(h:p):Ends fun _=>p:=⟨0,fun _ _=>h⟩
theorem Ends.now{p:Nat->Prop}(h:Ends p): ∃n,p n:=let⟨a,ha⟩:=h;⟨a,ha a (xJ _)⟩
open Classical in
noncomputable def Tz {α:Type} (F:Nat->Option α):Option α:=
 if h: ∃r,Ends fun m=>F m=some r then some h.choose else none
theorem gD{α:Type}{F:Nat->Option α}{r:α}:Tz F=some r↔Ends fun m=>F m=some r:=by
 unfold Tz;constructor
 ·intro h;split at h
  ·rename_i hx;cases h;exact hx.choose_spec
  cases h
 intro h;have hx: ∃r,Ends fun m=>F m=some r:=⟨r,h⟩;rw[dif_pos hx];obtain⟨n,h1,h2⟩:=(h.and hx.choose_spec).now;rw[h1]at h2;exact h2.symm
noncomputable def omega (G:GP) (S:nI):zS:=
 ⟨fun f args H=>Tz fun n=>(K7 G S n).call f args H,fun f id s=>Tz fun n=>(K7 G S n).loop f id s⟩
section
variable {G:GP} {S:nI}
variable {O:zS} {F:Nat->zS}
structure cu (O:zS) (F:Nat->zS):Prop where
 call: ∀f args H r,O.call f args H=some r->Ends fun m=>(F m).call f args H=some r
 loop: ∀f id s r,O.loop f id s=some r->Ends fun m=>(F m).loop f id s=some r
theorem Jf(hA:cu O F){f:FuncId}{args:List AV}{H:qn}{nx:Nat}{e:bY}(h:fO O f args H nx=some e):Ends fun m=>fO (F m) f args H nx=some e:=by
 unfold fO at h |-;split at h
 ·cases h
 rename_i L H0 hs;split at h
 ·cases h
 rename_i v H' hc;refine(hA.call _ _ _ _ hc).mono fun m hm=>?_;rw[hm];exact h
theorem Ht(hA:cu O F){o:Op}{E:vF}{H:qn}{nx:Nat}{e:bY}(h:ni G O o E H nx=some e):Ends fun m=>ni G (F m) o E H nx=some e:=by
 cases o with
 |call c=>
  obtain⟨callee,args,rI⟩:=c;cases callee with
  |value fo=>
   unfold ni at h |-;simp only at h |-;split at h
   ·exact Jf hA h
   ·exact Jf hA h
   cases h
  |_=>exact Ends.of h
 |makeFunc fn a b=>cases fn<;>exact Ends.of h
 |makeMap t r=>cases r<;>exact Ends.of h
 |_=>exact Ends.of h
theorem Pu(hA:cu O F){o:Oper}{s s' :St}(h:QI G O o s=some s'):Ends fun m=>QI G (F m) o s=some s' :=by
 unfold QI at h |-;split at h
 ·rename_i v ws nx Qh;refine(Ht hA Qh).mono fun m hm=>?_;rw[hm];exact h
 cases h
theorem QZ(hA:cu O F)(all:List Oper): ∀{l:List Oper}{s s' :St},QY G O all l s=some s' ->Ends fun m=>QY G (F m) all l s=some s'
 |[],s,s',h=>Ends.of h
 |o::r,s,s',h=>by
  simp only[QY]at h |-;split at h
  ·split at h
   ·rename_i s1 nh;refine((Pu hA nh).and (QZ hA all h)).mono fun m⟨h1,h2⟩=>?_;simp only[h1,h2]
   cases h
  ·exact QZ hA all h
  cases h
theorem ll(hA:cu O F)(all:List Oper){tm:Bool}: ∀{l:List Oper}{i:Nat}{s s' :St}{log:List (Nat×List Nat×List Nat)},cA G O all tm i l s log=some s' ->Ends fun m=>cA G (F m) all tm i l s log=some s'
 |[],i,s,s',log,h=>Ends.of h
 |o::r,i,s,s',log,h=>by
  simp only[cA]at h |-;split at h
  ·split at h
   ·rename_i v ws nx Qh;refine((Ht hA Qh).and (ll hA all h)).mono fun m⟨h1,h2⟩=>?_;rw[h1];exact h2
   cases h
  ·exact ll hA all h
  cases h
theorem og(hA:cu O F){f:FuncId}: ∀{c:Code}{s:St}{r:Ex×St},exec G O f c s=some r->Ends fun m=>exec G (F m) f c s=some r:=by
 intro c;induction c with
 |region id ops d=>
  intro s r h;cases d with
  |false=>
   simp only[exec]at h |-;split at h<;>cases h;rename_i s1 nh;refine(QZ hA _ nh).mono fun m hm=>?_;rw[hm]
  |true=>
   simp only[exec]at h |-;split at h<;>cases h;rename_i s1 nh;refine(ll hA _ nh).mono fun m hm=>?_;rw[hm]
 |seq x y lz Zb=>
  intro s r h;simp only[exec]at h |-;split at h
  ·rename_i s1 nh;refine((lz nh).and (Zb h)).mono fun m⟨h1,h2⟩=>?_;rw[h1];exact h2
  ·rename_i s1 nh;refine(lz nh).mono fun m h1=>?_;rw[h1];exact h
  ·rename_i i s1 nh;refine(lz nh).mono fun m h1=>?_;rw[h1];exact h
  cases h
 |cond o x y lz Zb=>
  intro s r h;simp only[exec]at h |-;split at h
  ·rename_i b hb;cases b with
   |true=>exact lz h
   |false=>exact Zb h
  cases h
 |block id c ih=>
  intro s r h;by_cases hl: ∃b,c= .loop b
  ·obtain⟨b,rfl⟩:=hl;simp only[exec]at h |-;split at h
   ·exact hA.loop _ _ _ _ h
   cases h
  have hex: ∀O,exec G O f (.block id c) s=match exec G O f c s with
   |some (.exit i,s')=>if i=id then some (.normal,s')else some (.exit i,s')
   |some (.normal,s')=>some (.normal,s')
   |some (.ret,s')=>some (.ret,s')
   |none=>none:=by
   intro O;cases c<;>first|rfl|exact absurd ⟨_,rfl⟩ hl
  simp only[hex]at h |-;split at h
  ·rename_i i s1 nh;refine(ih nh).mono fun m h1=>?_;rw[h1];exact h
  ·rename_i s1 nh;refine(ih nh).mono fun m h1=>?_;rw[h1];exact h
  ·rename_i s1 nh;refine(ih nh).mono fun m h1=>?_;rw[h1];exact h
  cases h
 |skip=>intro s r h;exact Ends.of h
 |exit id=>intro s r h;exact Ends.of h
 |ret=>intro s r h;exact Ends.of h
 |_=>intro s r h;simp[exec]at h
theorem fD(hA:cu O F){f:FuncId}{id:Nat}{s:St}{r:Ex×St}(h:nu G O f id s=some r):Ends fun m=>nu G (F m) f id s=some r:=by
 unfold nu at h |-;split at h
 ·cases h
 rename_i fi Z4;split at h
 ·cases h
 rename_i c hc;split at h
 ·rename_i s1 nh;split at h
  ·rename_i s2 DN;refine((og hA nh).and (hA.loop _ _ _ _ h)).mono fun m⟨h1,h2⟩=>?_;simp only[h1,DN,h2]
  cases h
 ·rename_i i s1 nh;refine(og hA nh).mono fun m h1=>?_;simp only[h1];exact h
 ·rename_i s1 nh;refine(og hA nh).mono fun m h1=>?_;simp only[h1];exact h
 cases h
theorem lH(hA:cu O F){f:FuncId}{args:List AV}{H:qn}{r:AV×qn}(h:iV G O f args H=some r):Ends fun m=>iV G (F m) f args H=some r:=by
 unfold iV at h |-;split at h
 ·cases h
 rename_i fi Z4;split at h;rotate_left
 ·cases h
 rename_i hk;simp only[hk,if_true];split at h
 ·cases h
 ·rename_i ex s jv hs;refine(og hA hs).mono fun m h1=>?_;rw[h1];cases ex with
  |exit i=>exact absurd rfl (jv i)
  |_=>exact h
 cases h
theorem Qv:cu (omega G S) (K7 G S):=⟨fun _ _ _ _ h=>gD.1 h,fun _ _ _ _ h=>gD.1 h⟩
theorem K8: ∀n,cu (K7 G S n) fun _=>K7 G S (n+1)
 |0=>⟨fun _ _ _ _ h=>by simp[K7]at h,fun _ _ _ _ h=>by simp[K7]at h⟩
 |n+1=>by
  have ih:=K8 n;refine⟨fun f args H r h=>?_,fun f id s r h=>?_⟩
  ·rw[K7]at h |-;simp only at h |-;split at h
   ·exact Ends.of h
   exact lH ih h
  rw[K7]at h |-;simp only at h |-;exact fD ih h
theorem GG{n:Nat}{f:FuncId}{args:List AV}{H:qn}{r:AV×qn}(h:(K7 G S n).call f args H=some r):(omega G S).call f args H=some r:=by
 refine gD.2 ⟨n,fun m hm=>?_⟩;obtain⟨k,rfl⟩:=Nat.exists_eq_add_of_le hm;induction k with
 |zero=>exact h
 |succ k ih=>
  obtain⟨_,h2⟩:=((K8 (n+k)).call f args H r (ih (by omega))).now;exact h2
theorem Ih{f:FuncId}{args:List AV}{H:qn}{r:AV×qn}(hs:S.call f=none)(h:iV G (omega G S) f args H=some r):(omega G S).call f args H=some r:=by
 refine gD.2 ?_;obtain⟨n,hn⟩:=lH Qv h;refine⟨n+1,fun m hm=>?_⟩;obtain⟨k,rfl⟩: ∃k,m=k+1:=⟨m-1,by omega⟩;simp only[K7,hs];exact hn k (by omega)
theorem MB{f:FuncId}{id:Nat}{s:St}{r:Ex×St}(h:nu G (omega G S) f id s=some r):(omega G S).loop f id s=some r:=by
 refine gD.2 ?_;obtain⟨n,hn⟩:=fD Qv h;refine⟨n+1,fun m hm=>?_⟩;obtain⟨k,rfl⟩: ∃k,m=k+1:=⟨m-1,by omega⟩;simp only[K7];exact hn k (by omega)
theorem Ii[zN]{P:Program}(hm:P.follows .mixedOrders=true)(hG:vL P G)(hF:RX P G)(hS:o8 P S){f:FuncId}{args:List AV}{H:qn}{r:AV}{H' :qn}
  (h:(omega G S).call f args H=some (r,H')):ic P f args H r H' :=by
 obtain⟨n,hn⟩:=(gD.1 h).now;exact((Io hm hG hF hS n).call f args H r H' hn).2
theorem In{n:Nat}{f:FuncId}{id:Nat}{s:St}{r:Ex×St}(h:(K7 G S n).loop f id s=some r):(omega G S).loop f id s=some r:=by
 refine gD.2 ⟨n,fun m hm=>?_⟩;obtain⟨k,rfl⟩:=Nat.exists_eq_add_of_le hm;induction k with
 |zero=>exact h
 |succ k ih=>
  obtain⟨_,h2⟩:=((K8 (n+k)).loop f id s r (ih (by omega))).now;exact h2
theorem Vm(n:Nat):cu (K7 G S n) fun _=>omega G S:=
 ⟨fun _ _ _ _ h=>Ends.of (GG h),fun _ _ _ _ h=>Ends.of (In h)⟩
theorem MA(f:FuncId)(id:Nat)(s:St):(omega G S).loop f id s=nu G (omega G S) f id s:=by
 cases h:nu G (omega G S) f id s with
 |some r=>exact MB h
 |none=>
  cases h2:(omega G S).loop f id s with
  |none=>rfl
  |some r=>
   obtain⟨n,hn⟩:=gD.1 h2;have h3:=hn (n+1) (by omega);simp only[K7]at h3;obtain⟨_,h4⟩:=(fD (Vm n) h3).now;rw[h]at h4;cases h4
theorem Mz{f:FuncId}(hs:S.call f=none)(args:List AV)(H:qn):(omega G S).call f args H=iV G (omega G S) f args H:=by
 cases h:iV G (omega G S) f args H with
 |some r=>exact Ih hs h
 |none=>
  cases h2:(omega G S).call f args H with
  |none=>rfl
  |some r=>
   obtain⟨n,hn⟩:=gD.1 h2;have h3:=hn (n+1) (by omega);simp only[K7,hs]at h3;obtain⟨_,h4⟩:=(lH (Vm n) h3).now;rw[h]at h4;cases h4
end
end Go.Gm
namespace Go.Gm
open Go
def fnOf(P:Program)(f:FuncId):Option FI:=
 match P.funcs[f]? with
 |some fn=>match fn.body with
  |some b=>if fn.name≠ "runtime.NumGoroutine" /\uy fn.ntmps b=true/\(vN b).Nodup then some ⟨fn.ntmps,fn.results.toList,b⟩else none
  |none=>none
 |none=>none
theorem fnOf_ok{P:Program}{f:FuncId}{fi:FI}(h:fnOf P f=some fi): ∃fn,P.funcs[f]? =some fn/\(fn.name== "runtime.NumGoroutine")=false/\fn.body=some fi.body/\fn.ntmps=fi.nt/\
  fn.results.toList=fi.results/\uy fi.nt fi.body=true/\(vN fi.body).Nodup:=by
 unfold fnOf at h;split at h<;>try cases h
 rename_i fn hfn;split at h<;>try cases h
 rename_i b hb;split at h<;>try cases h
 rename_i hc;exact⟨fn,hfn,by simpa using hc.1,hb,rfl,rfl,hc.2.1,hc.2.2⟩
def gpOf(P:Program)(spec:FuncId->Nat->nU)(owned tA:FuncId->Bool)(pre:FuncId->Nat->List Nat)(HV DV:TypeId->Bool)(cmd:FuncId->Nat->List RW):GP:=⟨tiOf P,fnOf P,spec,owned,tA,pre,HV,DV,cmd⟩
theorem AN{P:Program}{spec:FuncId->Nat->nU}{owned tA:FuncId->Bool}{pre:FuncId->Nat->List Nat}{HV DV:TypeId->Bool}{cmd:FuncId->Nat->List RW}:vL P (gpOf P spec owned tA pre HV DV cmd):=fun _ _ h=>tiOf_ok h
theorem gp_fns{P:Program}{spec:FuncId->Nat->nU}{owned tA:FuncId->Bool}{pre:FuncId->Nat->List Nat}{HV DV:TypeId->Bool}{cmd:FuncId->Nat->List RW}:RX P (gpOf P spec owned tA pre HV DV cmd):=⟨fun _ _ h=>fnOf_ok h⟩
def Vl(w:World)(b:Nat):Prop:=b<w.heap.size
theorem old_inv[zN](w:World)(ι:vG)(hg:zN.ok w/\ ∀b,zN.on b->b<w.heap.size):qW w [] ι (Vl w) where
 HY:=hg.1
 W4:=hg.2
 mW:=fun _ _ h=>by cases h
 inj:=fun _ _ _ _ _ h=>by cases h
 im:=fun _ h=>h
 KH:=fun _ _ _ h=>by cases h
def S0(w:World)(c:List PV)(cs:List Value):Prop:=
 c.length=cs.length/\(∀ p∈c,p.kv=true)/\ ∀(i:Nat) p v,c[i]? =some p->cs[i]? =some v->RP w (Vl w) p v
theorem S0.append{w:World}{c c' :List PV}{cs DC:List Value}(h:S0 w c cs)(h' :S0 w c' DC):S0 w (c++c') (cs++DC):=by
 obtain⟨a1,a2,a3⟩:=h;obtain⟨b1,b2,b3⟩:=h';refine⟨by simp[a1,b1],fun p hp=>?_,fun i p v h1 h2=>?_⟩
 ·rcases List.mem_append.1 hp with hp|hp
  ·exact a2 p hp
  exact b2 p hp
 by_cases hi:i<c.length
 ·rw[List.getElem?_append_left hi]at h1;rw[List.getElem?_append_left (a1 ▸ hi)]at h2;exact a3 i p v h1 h2
 rw[List.getElem?_append_right (by omega)]at h1;rw[List.getElem?_append_right (by omega)]at h2;exact b3 _ p v h1 (a1 ▸ h2)
theorem S0.one{w:World}{p:PV}{v:Value}(hf:p.kv=true)(h:RP w (Vl w) p v):S0 w [p] [v]:=by
 refine⟨rfl,by simpa using hf,fun i q u h1 h2=>?_⟩;cases i with
 |zero=>simp at h1 h2;subst h1;subst h2;exact h
 |succ i=>simp at h1
theorem S0.nil{w:World}:S0 w [] []:=⟨rfl,by simp,by simp⟩
def jO{α:Type}(P:Program)(t:TypeId)(e:α->List PV)(ok:α->Prop)(n:Nat):Prop:=
 ∀(H:Type)(enc:TypeId×Value->H)(w:World)(base:Nat)(spare:Nat->Bool)(held:Bool)(fuel:Nat)(cs:List Value)(x:DataW H×List MemPlace),fuel<=n->
  DataW.trod enc P w base spare held fuel t cs=some x-> ∃a:α,ok a/\(e a).length=P.cellsOf t/\S0 w (e a) cs
section
variable {P:Program}
theorem jO.int{t:TypeId}{k:IntKind}(ht:P.underlying t=some (.int k))(hc:P.cellsOf t=1)(n:Nat):jO P t (fun x:Int=>[PV.int k x]) (fun x=>(Lit.int k x).wf=true) n:=by
 intro H enc w base spare held fuel cs x _ h;obtain⟨a,rfl,_,hw⟩:=DataW.trod_int ht h;exact⟨a,hw,by simp[hc],.one rfl (.int k a)⟩
theorem jO.bool{t:TypeId}(ht:P.underlying t=some .bool)(hc:P.cellsOf t=1)(n:Nat):jO P t (fun x:Bool=>[PV.bool x]) (fun _=>True) n:=by
 intro H enc w base spare held fuel cs x _ h;obtain⟨a,rfl,_⟩:=DataW.trod_bool ht h;exact⟨a,trivial,by simp[hc],.one rfl (.bool a)⟩
theorem jO.str{t:TypeId}(ht:P.underlying t=some .string)(hc:P.cellsOf t=1)(n:Nat):jO P t (fun x:List UInt8=>[PV.str x]) (fun x=>x.length<=maxLen) n:=by
 intro H enc w base spare held fuel cs x _ h;obtain⟨a,rfl,_,hl⟩:=DataW.trod_string ht h;exact⟨a.data.toList,by simpa using hl,by simp[hc],.one rfl (.str _)⟩
theorem jO.map{α β:Type}{t:TypeId}{e:α->List PV}{ok:α->Prop}{e' :β->List PV}{ok' :β->Prop}{n:Nat}(h:jO P t e ok n)(f:α->β)
  (hf: ∀a,ok a->ok' (f a)/\e' (f a)=e a):jO P t e' ok' n:=by
 intro H enc w base spare held fuel cs x hn hx;obtain⟨a,h1,h2,h3⟩:=h H enc w base spare held fuel cs x hn hx;obtain⟨g1,g2⟩:=hf a h1;exact⟨f a,g1,by rw[g2];exact h2,by rw[g2];exact h3⟩
theorem jO.mono{α:Type}{t:TypeId}{e:α->List PV}{ok:α->Prop}{n m:Nat}(h:jO P t e ok n)(hm:m<=n):jO P t e ok m:=
 fun H enc w base spare held fuel cs x hn hx=>h H enc w base spare held fuel cs x (Nat.le_trans hn hm) hx
def slP(qq:Bool)(sz:Nat)(es:List (List PV)):PV:= .sl (qq&&es.isEmpty) (zC sz es) es
theorem Ml{α:Type}{f:Nat->Option α}: ∀{n:Nat}{l:List α},(List.range n).mapM f=some l->l.length=n/\ ∀i,i<n->f i=l[i]? :=by
 intro n l h;have key: ∀(k:Nat)(m:Nat)(l:List α),(List.range' k m).mapM f=some l->l.length=m/\ ∀i,i<m->f (k+i)=l[i]? :=by
  intro k m;induction m generalizing k with
  |zero=>intro l h;simp at h;subst h;exact⟨rfl,fun i hi=>by omega⟩
  |succ m ih=>
   intro l h;rw[List.range'_succ,List.mapM_cons]at h;simp only[xe,Option.bind_eq_some_iff,Option.pure_def,kX]at h;obtain⟨a,ha,r,hr,rfl⟩:=h;obtain⟨h1,h2⟩:=ih (k+1) r hr;refine⟨by simp[h1],fun i hi=>?_⟩;cases i with
   |zero=>simpa using ha
   |succ i=>
    have:=h2 i (by omega);rw[show k+(i+1)=k+1+i from by omega,this];simp
 have:=key 0 n l (by rwa[<- List.range_eq_range']);simpa using this
theorem Z0{w:World}{base:Nat}{a:Addr}{n:Nat}{cs:List Value}(h:w.cells? base a n=some cs):cs.length=n/\ ∀i,i<n->w.cell? (a.add i)=cs[i]? :=by
 unfold World.cells? at h;split at h
 ·exact Ml h
 cases h
theorem cell_lt{w:World}{a:Addr}{v:Value}(h:w.cell? a=some v):a.block<w.heap.size/\a.spot=none:=by
 unfold World.cell? at h;split at h
 ·rename_i c t f hb;refine⟨?_, ?_⟩
  ·rw[Array.getElem?_eq_some_iff]at hb;exact hb.1
  split at h
  ·cases h
  rename_i hs;cases Tn:a.spot with
  |none=>rfl
  |some s=>simp[Tn]at hs
 cases h
theorem HG{α β:Type}{p:Nat->α->β->Prop}: ∀(l:List β),(∀ i b,l[i]? =some b-> ∃a,p i a b)-> ∃r:List α,r.length=l.length/\ ∀(i:Nat) a b,r[i]? =some a->l[i]? =some b->p i a b:=by
 intro l;induction l generalizing p with
 |nil=>intro _;exact⟨[],rfl,by simp⟩
 |cons b l ih=>
  intro h;obtain⟨a,ha⟩:=h 0 b rfl;obtain⟨r,h1,h2⟩:=ih (p:=fun i=>p (i+1)) (fun i b' hb=>h (i+1) b' (by simpa using hb));refine⟨a::r,by simp[h1],fun i x y hx hy=>?_⟩;cases i with
  |zero=>simp at hx hy;subst hx;subst hy;exact ha
  |succ i=>exact h2 i x y (by simpa using hx) (by simpa using hy)
theorem jO.slice{α:Type}{t el:TypeId}{sz:Nat}{e:α->List PV}{ok:α->Prop}{n:Nat}(ht:P.underlying t=some (.slice el))(hc:P.cellsOf t=1)(bO:P.cellsOf el=sz)(bU:0<sz)
  (h:jO P el e ok n):jO P t (fun x:Bool×List α=>[slP x.1 sz (x.2.map e)]) (fun x=>x.2.length<=maxLen/\ ∀a∈x.2,ok a) (n+1):=by
 intro H enc w base spare held fuel cs x hn hx;rcases DataW.trod_slice ht hx with ⟨rfl,_⟩|⟨a,len,cap,elems,rest,m,rfl,rfl,_,hb,hlc,hcm,Yr,mq,_,_⟩
 ·exact⟨(true,[]),⟨by simp,by simp⟩,by simp[hc],.one rfl (.cJ 0)⟩
 rw[bO]at mq;obtain⟨r,hr1,hr2⟩:=HG (p:=fun i(y:α×List Value)(_:DataW H×List MemPlace)=>w.cells? base (a.add (i*sz)) sz=some y.2/\ok y.1/\(e y.1).length=sz/\S0 w (e y.1) y.2) elems (fun i b hib=>by
  have hi:i<len:=Yr ▸ (qF hib).1
  have g:=mq i hi
  rw[hib,Option.bind_eq_some_iff]at g
  obtain⟨cs,g1,g2⟩:=g
  obtain⟨y,k1,k2,k3⟩:=h H enc w base spare held m cs b (by omega) g2
  exact⟨(y,cs),g1,k1,by rw[<- bO];exact k2,k3⟩)
 have hr3: ∀(i:Nat) y,r[i]? =some y->w.cells? base (a.add (i*sz)) sz=some y.2/\ok y.1/\(e y.1).length=sz/\S0 w (e y.1) y.2:=by
  intro i y hy;have hi:i<elems.length:=hr1 ▸ (qF hy).1;exact hr2 i y elems[i] hy (by simp[hi])
 have Tl:r.length=len:=by rw[hr1,Yr]
 have M4:r≠[]->a.block<w.heap.size/\a.spot=none:=by
  intro jv;obtain⟨y,r',rfl⟩:=List.exists_cons_of_ne_nil jv;obtain⟨g1,_⟩:=hr3 0 y rfl;obtain⟨c1,c2⟩:=Z0 g1;have:=c2 0 bU;rw[show a.add (0*sz)=a from by simp[Addr.add],show a.add 0=a from by simp[Addr.add]]at this;have xB:0<y.2.length:=by omega
  rw[kU xB]at this;exact cell_lt this
 refine⟨(false,r.map (·.1)),⟨by simp[Tl];omega,fun z hz=>?_⟩,by simp[hc], ?_⟩
 ·obtain⟨y,hy,rfl⟩:=List.mem_map.1 hz;obtain⟨i,hi⟩:=jz hy;exact(hr3 i y hi).2.1
 refine .one rfl ?_;simp only[slP,Bool.false_and,List.map_map];show RP _ _ (Cf false sz _) _;obtain⟨ab,ao,T5⟩:=a;have hlen:(r.map ((fun x=>e x) ∘ fun x=>x.1)).length=len:=by simp[Tl]
 rw[<- hlen];have hmap: ∀(i:Nat) l,(r.map ((fun x=>e x) ∘ fun x=>x.1))[i]? =some l-> ∃y,r[i]? =some y/\l=e y.1:=by
  intro i l hl;simp only[List.getElem?_map,yi,Function.comp]at hl;obtain⟨y,h1,h2⟩:=hl;exact⟨y,h1,h2.symm⟩
 have JF: ∀(i:Nat) y,r[i]? =some y-> ∀j,j<sz->w.cell? ⟨ab,ao+(i*sz+j),none⟩=y.2[j]? :=by
  intro i y hy j hj;obtain⟨g1,_⟩:=hr3 i y hy;obtain⟨c1,c2⟩:=Z0 g1;have Tn:=(M4 (fun h0=>by rw[h0]at hy;simp at hy)).2;simp only at Tn;subst Tn;rw[<- c2 j hj];congr 1;unfold Addr.add;by_cases h1:i*sz=0<;>by_cases h2:j=0<;>simp[h1,h2]<;>omega
 refine RP.mk ?_;refine .sl sz _ ab ao cap (fun k=>(r[k / sz]?.bind fun y=>y.2[k % sz]?).getD undef) (fun jv=>(M4 (fun h0=>jv (by rw[h0];rfl))).1) (by rw[List.length_map,Tl];exact hlc) (fun l hl=>?_) (fun i hi=>?_) (fun i l j p h1 h2=>?_) (fun i l j p h1 h2=>?_) T5
  (fun jv=>(M4 (fun h0=>jv (by rw[h0];rfl))).2)
 ·obtain⟨i,hi⟩:=jz hl;obtain⟨y,hy,rfl⟩:=hmap i l hi;exact(hr3 i y hy).2.2.1
 ·rw[hlen]at hi;have hq:i / sz<len:=Nat.div_lt_of_lt_mul (by rw[Nat.mul_comm];exact hi);have hm:=Nat.mod_lt i bU;have Ee:i / sz<r.length:=by omega
  have hy:r[i / sz]? =some r[i / sz]:=kU Ee;have g:=JF (i / sz) _ hy (i % sz) hm;rw[show i / sz*sz+i % sz=i from by rw[Nat.mul_comm];exact Nat.div_add_mod i sz]at g;rw[g,hy];simp only[z7];obtain⟨g1,_,g3,g4⟩:=hr3 _ _ hy;obtain⟨c1,_⟩:=Z0 g1;have:i % sz<(r[i / sz]).2.length:=by omega
  rw[kU this];rfl
 ·obtain⟨y,hy,rfl⟩:=hmap i l h1;exact(hr3 i y hy).2.2.2.2.1 p (qX h2)
 obtain⟨y,hy,rfl⟩:=hmap i l h1;obtain⟨g1,_,g3,g4,g5,g6⟩:=hr3 i y hy;have hj:j<sz:=g3 ▸ (qF h2).1;have e1:(i*sz+j) / sz=i:=by rw[Nat.mul_comm,Nat.mul_add_div bU,Nat.div_eq_of_lt hj,Nat.add_zero]
 have e2:(i*sz+j) % sz=j:=by rw[Nat.mul_comm,Nat.mul_add_mod,Nat.mod_eq_of_lt hj]
 have NY:j<y.2.length:=by rw[<- g4];omega
 simp only[e1,e2,hy,z7,kU NY,Option.getD_some];exact g6 j p _ h2 (kU NY)
def pF{α:Type}(P:Program)(fs:List Field)(e:α->List PV)(ok:α->Prop)(n off:Nat):Prop:=
 ∀(H:Type)(enc:TypeId×Value->H)(w:World)(base:Nat)(spare:Nat->Bool)(held:Bool)(fuel:Nat)(cs:List Value),fuel<=n->off<=cs.length->
  (∀ f∈fs,∃ x,DataW.trod enc P w base spare held fuel f.type ((cs.drop f.offset).take (P.cellsOf f.type))=some x)->
  ∃(a:α)(m:Nat),ok a/\(e a).length=m/\off+m<=cs.length/\S0 w (e a) ((cs.drop off).take m)
theorem pF.nil(n off:Nat):pF P [] (fun _:Unit=>[]) (fun _=>True) n off:=by
 intro H enc w base spare held fuel cs _ ho _;exact⟨(),0,trivial,rfl,by simpa using ho,by simpa using S0.nil⟩
theorem pF.cons{α β:Type}{f:Field}{fs:List Field}{e1:α->List PV}{ok1:α->Prop}{e2:β->List PV}{ok2:β->Prop}{n off c:Nat}(ho:f.offset=off)(hc:P.cellsOf f.type=c)
  (h1:jO P f.type e1 ok1 n) (h2:pF P fs e2 ok2 n (off+c)):pF P (f::fs) (fun x:α×β=>e1 x.1++e2 x.2) (fun x=>ok1 x.1/\ok2 x.2) n off:=by
 intro H enc w base spare held fuel cs hn cC AQ;obtain⟨x,hx⟩:=AQ f (by simp);rw[hc,ho]at hx;obtain⟨a,a1,a2,a3⟩:=h1 H enc w base spare held fuel _ x hn hx;rw[hc]at a2;have hl:=a3.1;rw[a2,List.length_take,List.length_drop]at hl;have pB:off+c<=cs.length:=by omega
 obtain⟨b,m,b1,b2,b3,b4⟩:=h2 H enc w base spare held fuel cs hn pB (fun f' Ys=>AQ f' (by simp[Ys]));refine⟨(a,b),c+m,⟨a1,b1⟩,by simp[a2,b2],by omega, ?_⟩;have:=a3.append b4;rwa[show (cs.drop off).take c++(cs.drop (off+c)).take m=(cs.drop off).take (c+m)from by rw[List.take_add,List.drop_drop]]at this
theorem jO.struct{α:Type}{t:TypeId}{fs:Array Field}{e:α->List PV}{ok:α->Prop}{n c:Nat}(ht:P.underlying t=some (.struct fs))(hc:P.cellsOf t=c)(hlen: ∀a,(e a).length=c)
  (h:pF P fs.toList e ok n 0):jO P t e ok (n+1):=by
 intro H enc w base spare held fuel cs x hn hx;obtain⟨xs,m,rfl,_,hl,hxl,hf⟩:=DataW.trod_struct ht hx;obtain⟨a,k,h1,h2,h3,h4⟩:=h H enc w base spare held m cs (by omega) (Nat.zero_le _) (fun f hfm=>by
  obtain⟨i,hi⟩:=jz hfm
  have vq:fs[i]? =some f:=by rw[<- Array.getElem?_toList];exact hi
  have xB:i<xs.length:=by
   rw[hxl]
   exact(Array.getElem?_eq_some_iff.1 vq).1
  exact⟨xs[i],by rw[hf i f vq,kU xB]⟩)
 have:k=c:=by rw[<- h2];exact hlen a
 subst this;refine⟨a,h1,by rw[h2,hc], ?_⟩;rwa[List.drop_zero,List.take_of_length_le (by rw[hl,hc];exact xJ _)]at h4
end
end Go.Gm
namespace Go.Gm
open Go Go.ChangeShapes Go.WideShapes Go.RowKit
theorem lg{H:Type}{enc:TypeId×Value->H}{P:Program}(hl:laidOutB P=true){W W' :World}{sp' :Nat->Bool}:
  ∀{ts:List TypeId}{vs:List Value}{ds:List (DataW H)}{ps:List MemPlace},(∀ t∈ts,P.readableRec t=true/\t<P.types.size)->
  DataW.TrodAll enc P W 0 (fun _=>true) true ts vs ds ps->(∀ p∈ps,W.sameAt W' p)->(∀ p∈ps,sp' p.block=true)->DataW.TrodAll enc P W' 0 sp' true ts vs ds ps
 |[],vs,ds,ps,_,h,_,_=>by
  obtain⟨rfl,rfl,rfl⟩:=trodAll_nil h;exact trodAll_mk0
 |t::ts,vs,ds,ps,hr,h,hs,hp=>by
  obtain⟨v,dG,d,T6,p,q,rfl,rfl,rfl,h1,h2⟩:=trodAll_cons h;have:=hr t (by simp);exact trodAll_cons_mk (WideElems.Trod_stays hl this.1 this.2 h1 (fun x hx=>hs x (by simp[hx])) (fun x hx=>hp x (by simp[hx])))
   (lg hl (fun t ht=>hr t (by simp[ht])) h2 (fun x hx=>hs x (by simp[hx])) (fun x hx=>hp x (by simp[hx])))
theorem X5{H:Type}{enc:TypeId×Value->H}{P:Program}{w:World}{base:Nat}{spare:Nat->Bool}{held:Bool}:
  ∀{ts:List TypeId}{vs:List Value}{ds:List (DataW H)}{ps:List MemPlace},DataW.TrodAll enc P w base spare held ts vs ds ps->ts.length=vs.length/\ds.length=ts.length
 |[],vs,ds,ps,h=>by
  obtain⟨rfl,rfl,rfl⟩:=trodAll_nil h;exact⟨rfl,rfl⟩
 |t::ts,vs,ds,ps,h=>by
  obtain⟨v,dG,d,T6,p,q,rfl,rfl,rfl,h1,h2⟩:=trodAll_cons h;obtain⟨a,b⟩:=X5 h2;exact⟨by simp[a],by simp[b]⟩
def cx{α:Type}(P:Program)(t:TypeId)(e:α->PV)(ok:α->Prop):Prop:=
 ∀(H:Type)(enc:TypeId×Value->H)(w:World)(base ir:Nat)(spare:Nat->Bool)(held:Bool)(v:Value)(d:DataW H)(ps:List MemPlace),Value.okWide P w .any ir t v->
  DataW.Trod enc P w base spare held t v d ps-> ∃a:α,ok a/\RP w (Vl w) (e a) v
theorem cx.struct{α:Type}{P:Program}{t:TypeId}{fs:Array Field}{e:α->List PV}{ok:α->Prop}(ht:P.underlying t=some (.struct fs))(h: ∀n,jO P t e ok n):cx P t (fun a=> .agg (e a)) ok:=by
 intro H enc w base ir spare held v d ps sG ⟨fuel,hv⟩;simp only[Value.okWide,ht]at sG;obtain⟨cs,rfl,_,_⟩:=sG;obtain⟨a,h1,h2,h3⟩:=h fuel H enc w base spare held fuel _ _ (xJ _) hv;refine⟨a,h1, ?_⟩;obtain⟨l⟩:=cs;exact .agg _ _ h3.1 h3.2.1 h3.2.2
def oneD:TypeDesc->Bool
 | .bool| .int _| .string| .slice _=>true
 |_=>false
theorem cx.one{α:Type}{P:Program}{t:TypeId}{td:TypeDesc}{e:α->PV}{ok:α->Prop}(ht:P.underlying t=some td)(hd:oneD td=true)(h: ∀n,jO P t (fun a=>[e a]) ok n):cx P t e ok:=by
 intro H enc w base ir spare held v d ps sG ⟨fuel,hv⟩;obtain⟨a,h1,h2,h3⟩:=h fuel H enc w base spare held fuel _ _ (xJ _) hv;refine⟨a,h1, ?_⟩;have hc:v.cells= #[v]:=by
  simp only[Value.okWide,ht]at sG;cases td<;>simp[oneD]at hd<;>simp only[Cell.okWide,ht]at sG<;>cases v<;>simp_all [Cell.ok,Value.cells]
 exact h3.2.2 0 _ v rfl (by rw[hc];rfl)
def wS{β:Type}(P:Program)(ts:List TypeId)(e:β->List PV)(ok:β->Prop):Prop:=
 ∀(H:Type)(enc:TypeId×Value->H)(w:World)(base ir:Nat)(spare:Nat->Bool)(held:Bool)(vs:List Value)(ds:List (DataW H))(ps:List MemPlace),
  (∀(j:Nat) t v,ts[j]? =some t->vs[j]? =some v->Value.okWide P w .any ir t v)->DataW.TrodAll enc P w base spare held ts vs ds ps->
  ∃b:β,ok b/\(e b).length=vs.length/\ ∀(i:Nat) p v,(e b)[i]? =some p->vs[i]? =some v->RP w (Vl w) p v
theorem wS.nil{P:Program}:wS P [] (fun _:Unit=>[]) (fun _=>True):=by
 intro H enc w base ir spare held vs ds ps _ h;obtain⟨rfl,rfl,rfl⟩:=trodAll_nil h;exact⟨(),trivial,rfl,by simp⟩
theorem wS.cons{α β:Type}{P:Program}{t:TypeId}{ts:List TypeId}{e1:α->PV}{ok1:α->Prop}{e2:β->List PV}{ok2:β->Prop}(h1:cx P t e1 ok1)(h2:wS P ts e2 ok2):
  wS P (t::ts) (fun x:α×β=>e1 x.1::e2 x.2) (fun x=>ok1 x.1/\ok2 x.2):=by
 intro H enc w base ir spare held vs ds ps sG h;obtain⟨v,dG,d,T6,p,q,rfl,rfl,rfl,r1,r2⟩:=trodAll_cons h;obtain⟨a,a1,a2⟩:=h1 H enc w base ir spare held v d p (sG 0 t v rfl rfl) r1;obtain⟨b,b1,b2,b3⟩:=h2 H enc w base ir spare held dG T6 q (fun j t v x y=>sG (j+1) t v (by simpa using x) (by simpa using y)) r2;refine⟨(a,b),⟨a1,b1⟩,by simp[b2],fun i x y hx hy=>?_⟩;cases i with
 |zero=>simp at hx hy;subst hx;subst hy;exact a2
 |succ i=>exact b3 i x y (by simpa using hx) (by simpa using hy)
theorem wS.weaken{β:Type}{P:Program}{ts:List TypeId}{e:β->List PV}{ok:β->Prop}(h:wS P ts e ok):wS P ts e fun _=>True:=by
 intro H enc w base ir spare held vs ds ps sG hh;obtain⟨b,_,h2,h3⟩:=h H enc w base ir spare held vs ds ps sG hh;exact⟨b,trivial,h2,h3⟩
theorem Yz[zN]{P:Program}{G:GP}{S:nI}(hm:P.follows .mixedOrders=true)(hG:vL P G)(hF:RX P G)(hS:o8 P S)(hl:laidOutB P=true)
  {f:FuncId} {fn:Func} {tb:TypeId} (hres:fn.resultTypes= #[tb]) (htb:P.underlying tb=some .bool) {s:ChangeSpec} (hvars:s.vars=[])
  (hread: ∀t∈fn.params.toList,P.readableRec t=true/\t<P.types.size)
  (Ek: ∀(H:Type)(ds:List (DataW H)),ds.length=fn.params.toList.length->s.fn H ds={ results:=[.lit (.bool true)],args:=ds })
  {β:Type} {e:β->List PV} {ok:β->Prop} (Te:wS P fn.params.toList e ok)
  (sM: ∀b,ok b-> ∃H',(omega G S).call f ((e b).map .pv) []=some (.pv (.bool true),H'))
  {H:Type} {enc:TypeId×Value->H} {W:World} {base:Nat} {args:Array Value} {ds gs:List (DataW H)} {before:List MemPlace}
  (Xn: ∀(j:Nat) t v,fn.params[j]? =some t->args[j]? =some v->Value.okWide P W .any base t v)
  (hW:DataW.Whole enc P fn.params.toList s.vars false W args.toList ds gs before) (hgl:zN.ok W/\ ∀b,zN.on b->b<W.heap.size):
  Calls P f args W fun e W' => ∃v,e= .returned v/\s.post enc P fn false true false false W args v W' :=by
 have hW' :=hW;obtain⟨p,q,hA,hV,rfl,hfz,DL⟩:=hW;obtain⟨vs⟩:=args;rw[hvars]at hV;obtain⟨rfl,rfl⟩:=trodVars_none hV;obtain⟨hl1,NZ⟩:=X5 hA;obtain⟨b,b1,b2,b3⟩:=Te H enc W 0 base _ _ vs ds p (fun j t v h1 h2=>Xn j t v (by rw[<- Array.getElem?_toList];exact h1) (by rw[<- Array.getElem?_toList];exact h2)) hA;obtain⟨H',hc⟩:=sM b b1;have sG:=Ii hm hG hF hS hc W (fun _=>⟨0,0,[]⟩) (Vl W) vs (old_inv W _ hgl) (by simpa using b2) (fun i x v h1 h2=>by
  simp only[List.getElem?_map,yi]at h1
  obtain⟨y,hy,rfl⟩:=h1
  exact .pv _ _ (b3 i y v hy h2))
 refine sG.mono fun en W'⟨v,ι',jA,h1,h2,h3,h4⟩=>?_;subst h1;have hv:v= .bool true:=by
  have:=h4.uB;cases this;rfl
 subst hv;have E0: ∀k,k<W.heap.size->W'.heap[k]? =W.heap[k]? :=fun k hk=>h3.ka k hk fun β x hx=>by cases hx
 have xB: ∀x∈p,x.block<W.heap.size:=fun x hx=>hW'.lt x (by simp[hx]);have ZM: ∀x∈p,W.sameAt W' x:=fun x hx=>by
  cases x with
  |cell b o=>exact World.cell?_of_block (w:=W) (E0 b (xB _ hx))
  |map b=>exact E0 b (xB _ hx)
 refine⟨_,rfl,ds,[],p++[],[],p,[],hW', ?_, ?_, ?_, ?_,fun h=>by cases h⟩
 ·rw[List.append_nil,Ek H ds NZ,hres];exact trodAll_cons_mk (shut_bool htb true) trodAll_mk0
 ·rw[List.append_nil,Ek H ds NZ];exact lg hl hread hA ZM (fun x hx=>by simpa using xB x hx)
 ·rw[hvars];rw[List.append_nil,Ek H ds NZ];rfl
 refine⟨h3.io.1,h3.io.2,fun i hi=>?_⟩;rw[E0 i hi];split<;>simp_all
end Go.Gm
namespace Go.Gm
open Go
structure FT (b:Bool):Prop where
 h:b=true
inductive Fr where
 |code (c:Code)
 |upto (id:Nat)
 |mg (l:List RW)
def cont(G:GP)(O:zS)(f:FuncId):List Fr->Ex×St->Option (Ex×St)
 |[],x=>some x
 | .upto id::r,(.exit i,s)=>if i=id then cont G O f r (.normal,s)else cont G O f r (.exit i,s)
 | .upto _::r,(.normal,s)=>cont G O f r (.normal,s)
 | .upto _::r,(.ret,s)=>cont G O f r (.ret,s)
 | .mg l::r,(.normal,s)=>cont G O f r (.normal,Gm.mg l s)
 | .mg _::r,(.exit i,s)=>cont G O f r (.exit i,s)
 | .mg _::r,(.ret,s)=>cont G O f r (.ret,s)
 | .code c::r,(.normal,s)=>match exec G O f c s with
  |some x=>cont G O f r x
  |none=>none
 | .code _::r,(.exit i,s)=>cont G O f r (.exit i,s)
 | .code _::r,(.ret,s)=>cont G O f r (.ret,s)
def K5(G:GP)(O:zS)(f:FuncId)(all l:List Oper)(s:St)(r:List Fr):Option (Ex×St):=
 match QY G O all l s with
 |some s' =>cont G O f r (.normal,s')
 |none=>none
def Xs(G:GP)(O:zS)(f:FuncId)(all:List Oper)(tm:Bool)(i:Nat)(l:List Oper)(s:St)(log:List (Nat×List Nat×List Nat))(r:List Fr):Option (Ex×St):=
 match cA G O all tm i l s log with
 |some s' =>cont G O f r (.normal,s')
 |none=>none
def effX(G:GP)(O:zS)(f:FuncId)(all l:List Oper)(d:Option Tmp)(E:vF)(H:qn)(r:List Fr):Option bY->Option (Ex×St)
 |some (v,ws,nx)=>K5 G O f all l ⟨cO d v E,qS ws H,nx⟩ r
 |none=>none
def effD(G:GP)(O:zS)(f:FuncId)(all:List Oper)(tm:Bool)(i:Nat)(l:List Oper)(d:Option Tmp)(E:vF)(H:qn)(rd:List Nat)(log:List (Nat×List Nat×List Nat))(r:List Fr):Option bY->Option (Ex×St)
 |some (v,ws,nx)=>Xs G O f all tm i l ⟨cO d v E,qS (fK tm rd H ws) H,nx⟩ ((i-1,rd,(fK tm rd H ws).map (·.1))::log) r
 |none=>none
section
variable {G:GP} {O:zS} {f:FuncId}
theorem X_one(c:Code)(s:St):exec G O f c s=cont G O f [.code c] (.normal,s):=by
 simp only[cont];split<;>simp_all
theorem X_nil(x:Ex×St):cont G O f [] x=some x:=rfl
theorem X_uptoN(id:Nat)(r:List Fr)(s:St):cont G O f (.upto id::r) (.normal,s)=cont G O f r (.normal,s):=rfl
theorem X_uptoR(id:Nat)(r:List Fr)(s:St):cont G O f (.upto id::r) (.ret,s)=cont G O f r (.ret,s):=rfl
theorem X_uptoE(id i:Nat)(r:List Fr)(s:St):cont G O f (.upto id::r) (.exit i,s)=if i=id then cont G O f r (.normal,s)else cont G O f r (.exit i,s):=rfl
theorem X_codeR(c:Code)(r:List Fr)(s:St):cont G O f (.code c::r) (.ret,s)=cont G O f r (.ret,s):=rfl
theorem X_codeE(c:Code)(i:Nat)(r:List Fr)(s:St):cont G O f (.code c::r) (.exit i,s)=cont G O f r (.exit i,s):=rfl
theorem X_skip(r:List Fr)(s:St):cont G O f (.code .skip::r) (.normal,s)=cont G O f r (.normal,s):=rfl
theorem X_ret(r:List Fr)(s:St):cont G O f (.code .ret::r) (.normal,s)=cont G O f r (.ret,s):=rfl
theorem X_exit(i:Nat)(r:List Fr)(s:St):cont G O f (.code (.exit i)::r) (.normal,s)=cont G O f r (.exit i,s):=rfl
theorem X_seq(a b:Code)(r:List Fr)(s:St):cont G O f (.code (.seq a b)::r) (.normal,s)=cont G O f (.code a:: .code b::r) (.normal,s):=by
 simp only[cont,exec];cases exec G O f a s with
 |none=>rfl
 |some x=>
  obtain⟨e,s'⟩:=x;cases e<;>rfl
theorem X_cond(c:Operand)(t e:Code)(r:List Fr)(s:St):cont G O f (.code (.cond c t e)::r) (.normal,s)=match ev s.env c with
  | .pv (.bool b)=>if b=true then cont G O f (.code t::r) (.normal,s)else cont G O f (.code e::r) (.normal,s)
  |_=>none:=by
 simp only[cont,exec];cases ev s.env c with
 |pv p=>cases p with
  |bool b=>cases b<;>rfl
  |_=>rfl
 |_=>rfl
def EC:Code->Bool
 | .loop _=>true
 |_=>false
theorem aY(id:Nat)(c:Code)(r:List Fr)(s:St)(hl:EC c=false):cont G O f (.code (.block id c)::r) (.normal,s)=cont G O f (.code c:: .upto id::r) (.normal,s):=by
 have hex:exec G O f (.block id c) s=match exec G O f c s with
   |some (.exit i,s')=>if i=id then some (.normal,s')else some (.exit i,s')
   |some (.normal,s')=>some (.normal,s')
   |some (.ret,s')=>some (.ret,s')
   |none=>none:=by
  cases c<;>first|rfl|(simp [EC]at hl)
 simp only[cont,hex];cases exec G O f c s with
 |none=>rfl
 |some x=>
  obtain⟨e,s'⟩:=x;cases e with
  |exit i=>
   by_cases h:i=id<;>simp[cont,h]
  |_=>rfl
theorem A0(id:Nat)(a b:Code)(r:List Fr)(s:St):cont G O f (.code (.block id (.seq a b))::r) (.normal,s)=cont G O f (.code (.seq a b):: .upto id::r) (.normal,s):=aY _ _ _ _ rfl
theorem FW(id i:Nat)(a:Code)(r:List Fr)(s:St):cont G O f (.code (.block id (.block i a))::r) (.normal,s)=cont G O f (.code (.block i a):: .upto id::r) (.normal,s):=aY _ _ _ _ rfl
theorem FX(id:Nat)(c:Operand)(a b:Code)(r:List Fr)(s:St):cont G O f (.code (.block id (.cond c a b))::r) (.normal,s)=cont G O f (.code (.cond c a b):: .upto id::r) (.normal,s):=aY _ _ _ _ rfl
theorem FZ(id i:Nat)(a:Array Oper)(d:Bool)(r:List Fr)(s:St):cont G O f (.code (.block id (.region i a d))::r) (.normal,s)=cont G O f (.code (.region i a d):: .upto id::r) (.normal,s):=aY _ _ _ _ rfl
theorem A2(id i:Nat)(r:List Fr)(s:St):cont G O f (.code (.block id (.exit i))::r) (.normal,s)=cont G O f (.code (.exit i):: .upto id::r) (.normal,s):=aY _ _ _ _ rfl
theorem FY(id:Nat)(r:List Fr)(s:St):cont G O f (.code (.block id .skip)::r) (.normal,s)=cont G O f r (.normal,s):=by rw[aY _ _ _ _ rfl];rfl
theorem A1(id:Nat)(r:List Fr)(s:St):cont G O f (.code (.block id .ret)::r) (.normal,s)=cont G O f r (.ret,s):=by rw[aY _ _ _ _ rfl];rfl
def EO(G:GP)(O:zS)(f:FuncId)(id:Nat)(r:List Fr):Option St->Option (Ex×St)
 |some s=>match O.loop f id s with
  |some x=>cont G O f r x
  |none=>none
 |none=>none
theorem X_loop(id:Nat)(c:Code)(r:List Fr)(s:St):cont G O f (.code (.block id (.loop c))::r) (.normal,s)=EO G O f id r (fx (G.spec f id) s):=by
 simp only[cont,exec,EO];cases fx (G.spec f id) s with
 |none=>rfl
 |some s1=>rfl
theorem Mj(id:Nat)(r:List Fr)(s:St):EO G O f id r (some s)=match O.loop f id s with
  |some x=>cont G O f r x
  |none=>none:=rfl
theorem AA(l o p q r s):fx ⟨l,o,p,q,r,0⟩ s=some (enter ⟨l,o,p,q,r,0⟩ s):=rfl
theorem again_0(l o p q r n s):again ⟨l,o,p,q,r,0⟩ n s=narrow l n s:=rfl
theorem leave_0(l o p q r n s):leave ⟨l,o,p,q,r,0⟩ n s=some (a7 o n s):=rfl
def QF(n:Nat):Option St->Option St
 |some s1=>if s1.nx=n then some s1 else none
 |none=>none
theorem Po(n:Nat)(E H k):QF n (some ⟨E,H,k⟩)=if k=n then some ⟨E,H,k⟩else none:=rfl
theorem AB(l o p q r s):fx ⟨l,o,p,q,r,1⟩ s=QF (s.nx+1) (canon l s.nx (enter ⟨l,o,p,q,r,1⟩ s)):=rfl
theorem AD(l o p q r s):fx ⟨l,o,p,q,r,2⟩ s=QF (s.nx+2) (canon l s.nx (enter ⟨l,o,p,q,r,2⟩ s)):=rfl
theorem AE(l o p q r s):fx ⟨l,o,p,q,r,3⟩ s=QF (s.nx+3) (canon l s.nx (enter ⟨l,o,p,q,r,3⟩ s)):=rfl
theorem AF(l o p q r s):fx ⟨l,o,p,q,r,4⟩ s=QF (s.nx+4) (canon l s.nx (enter ⟨l,o,p,q,r,4⟩ s)):=rfl
theorem again_1(l o p q r n s):again ⟨l,o,p,q,r,1⟩ n s=QF n (canon l (n-1) (zL q (jQ p s))):=rfl
theorem again_2(l o p q r n s):again ⟨l,o,p,q,r,2⟩ n s=QF n (canon l (n-2) (zL q (jQ p s))):=rfl
theorem again_3(l o p q r n s):again ⟨l,o,p,q,r,3⟩ n s=QF n (canon l (n-3) (zL q (jQ p s))):=rfl
theorem again_4(l o p q r n s):again ⟨l,o,p,q,r,4⟩ n s=QF n (canon l (n-4) (zL q (jQ p s))):=rfl
theorem leave_1(l o p q r n s):leave ⟨l,o,p,q,r,1⟩ n s=canon o (n-1) s:=rfl
theorem leave_2(l o p q r n s):leave ⟨l,o,p,q,r,2⟩ n s=canon o (n-2) s:=rfl
theorem leave_3(l o p q r n s):leave ⟨l,o,p,q,r,3⟩ n s=canon o (n-3) s:=rfl
theorem leave_4(l o p q r n s):leave ⟨l,o,p,q,r,4⟩ n s=canon o (n-4) s:=rfl
def keptL(l:List Nat)(n:Nat)(s:St):Option St:=if n<=s.nx then some { s with env:=restrict s.env l }else none
theorem keptL_S(l:List Nat)(n E H k):keptL l n ⟨E,H,k⟩=if n<=k then some ⟨restrict E l,H,k⟩else none:=rfl
theorem Nn(l o p q r n s):again ⟨l,o,p,q,r,1000⟩ n s=keptL l n (zL q (jQ p s)):=by unfold again;rw[if_pos rfl];rfl
theorem X_cmds0(r:List Fr)(s:St):cont G O f (.mg []::r) (.normal,s)=cont G O f r (.normal,s):=rfl
theorem X_cmdsC(c:RW)(l:List RW)(r:List Fr)(s:St):cont G O f (.mg (c::l)::r) (.normal,s)=cont G O f (.mg l::r) (.normal,W2 c s):=rfl
theorem A3(id:Nat)(ops:Array Oper)(r:List Fr)(s:St):cont G O f (.code (.region id ops false)::r) (.normal,s)=K5 G O f ops.toList ops.toList (mg (G.cmd f (2*id)) s) (.mg (G.cmd f (2*id+1))::r):=by
 simp only[cont,exec,K5];cases QY G O ops.toList ops.toList (mg (G.cmd f (2*id)) s)<;>rfl
theorem S1(id:Nat)(ops:Array Oper)(r:List Fr)(s:St):cont G O f (.code (.region id ops true)::r) (.normal,s)=Xs G O f ops.toList (o0 (G.pre f id)) 0 ops.toList (pres G f id (mg (G.cmd f (2*id)) s)) [] (.mg (G.cmd f (2*id+1))::r):=by
 simp only[cont,exec,Xs];cases cA G O ops.toList (o0 (G.pre f id)) 0 ops.toList (pres G f id (mg (G.cmd f (2*id)) s)) []<;>rfl
theorem pres_S(f:FuncId)(id:Nat)(E:vF)(H:qn)(nx:Nat):pres G f id ⟨E,H,nx⟩=ud (sI E H (G.pre f id)) ⟨E,H,nx⟩:=rfl
theorem Y_nil(all:List Oper)(s:St)(r:List Fr):K5 G O f all [] s r=cont G O f r (.normal,s):=rfl
theorem Y_op(all:List Oper)(d:Option Tmp)(o:Op)(ty:TypeId)(ps:String)(af:Array Edge)(l:List Oper)(E:vF)(H:qn)(nx:Nat)(r:List Fr):
  K5 G O f all (⟨d,o,ty,ps,af,none⟩::l) ⟨E,H,nx⟩ r=match ud (GA G o E) ⟨E,H,nx⟩with
   |⟨E',H',n'⟩=>effX G O f all l d E' H' r (ni G O o E' H' n'):=by
 simp only[K5,QY,vM,QI];generalize ud (GA G o E) ⟨E,H,nx⟩=s;obtain⟨E',H',n'⟩:=s;simp only;cases ni G O o E' H' n' with
 |none=>rfl
 |some e=>obtain⟨v,ws,k⟩:=e;rfl
theorem Y_guard(all:List Oper)(d:Option Tmp)(o:Op)(ty:TypeId)(ps:String)(af:Array Edge)(g:Nat×Bool)(l:List Oper)(E:vF)(H:qn)(nx:Nat)(r:List Fr):
  K5 G O f all (⟨d,o,ty,ps,af,some g⟩::l) ⟨E,H,nx⟩ r=match vM all ⟨d,o,ty,ps,af,some g⟩ E with
   |some b=>if b=true then K5 G O f all (⟨d,o,ty,ps,af,none⟩::l) ⟨E,H,nx⟩ r else K5 G O f all l ⟨cO d (.xS []) E,H,nx⟩ r
   |none=>none:=by
 simp only[K5,QY];cases vM all ⟨d,o,ty,ps,af,some g⟩ E with
 |none=>rfl
 |some b=>cases b<;>simp[vM,QI]
theorem NR(all:List Oper)(d:Option Tmp)(o:Op)(ty:TypeId)(ps:String)(af:Array Edge)(j:Nat)(w:Bool)(E:vF):
  vM all ⟨d,o,ty,ps,af,some (j,w)⟩ E=match all[j]? with
   |some oj=>match oj.dst with
    |some d=>match E.get d with
     | .pv (.bool b)=>some (b==w)
     | .xS []=>some false
     |_=>none
    |none=>some false
   |none=>some false:=rfl
theorem Z_nil(all:List Oper)(tm:Bool)(i:Nat)(s:St)(log:List (Nat×List Nat×List Nat))(r:List Fr)(h:FT (nk (wb [] all) log)):Xs G O f all tm i [] s log r=cont G O f r (.normal,s):=by
 simp only[Xs,cA,h.h,if_true]
theorem Z_op(all:List Oper)(tm:Bool)(i:Nat)(d:Option Tmp)(o:Op)(ty:TypeId)(ps:String)(af:Array Edge)(l:List Oper)(E:vF)(H:qn)(nx:Nat)(log:List (Nat×List Nat×List Nat))(r:List Fr):
  Xs G O f all tm i (⟨d,o,ty,ps,af,none⟩::l) ⟨E,H,nx⟩ log r=effD G O f all tm (i+1) l d E H (mF o E H) log r (ni G O o E H nx):=by
 simp only[Xs,cA,vM];cases ni G O o E H nx with
 |none=>rfl
 |some e=>obtain⟨v,ws,k⟩:=e;rfl
theorem Z_guard(all:List Oper)(tm:Bool)(i:Nat)(d:Option Tmp)(o:Op)(ty:TypeId)(ps:String)(af:Array Edge)(g:Nat×Bool)(l:List Oper)(E:vF)(H:qn)(nx:Nat)(log:List (Nat×List Nat×List Nat))(r:List Fr):
  Xs G O f all tm i (⟨d,o,ty,ps,af,some g⟩::l) ⟨E,H,nx⟩ log r=match vM all ⟨d,o,ty,ps,af,some g⟩ E with
   |some b=>if b=true then Xs G O f all tm i (⟨d,o,ty,ps,af,none⟩::l) ⟨E,H,nx⟩ log r else Xs G O f all tm (i+1) l ⟨cO d (.xS []) E,H,nx⟩ log r
   |none=>none:=by
 simp only[Xs,cA];cases vM all ⟨d,o,ty,ps,af,some g⟩ E with
 |none=>rfl
 |some b=>cases b<;>simp[vM,QI]
theorem Sv(all l:List Oper)(d:Option Tmp)(E:vF)(H:qn)(r:List Fr)(v:AV)(ws:List (Nat×qC))(nx:Nat):
  effX G O f all l d E H r (some (v,ws,nx))=K5 G O f all l ⟨cO d v E,qS ws H,nx⟩ r:=rfl
theorem Su(all l:List Oper)(d:Option Tmp)(E:vF)(H:qn)(r:List Fr):effX G O f all l d E H r none=none:=rfl
theorem Ss(all:List Oper)(i:Nat)(l:List Oper)(d:Option Tmp)(E:vF)(H:qn)(rd:List Nat)(log:List (Nat×List Nat×List Nat))(r:List Fr)(v:AV)(ws:List (Nat×qC))(nx:Nat):
  effD G O f all false (i+1) l d E H rd log r (some (v,ws,nx))=Xs G O f all false (i+1) l ⟨cO d v E,qS ws H,nx⟩ ((i,rd,ws.map (·.1))::log) r:=rfl
theorem trimOff(l:List Nat)(h:o0 l=false):o0 l=false:=h
theorem bool_tt:(true==true)=true:=rfl
theorem bool_ff:(false==false)=true:=rfl
theorem bool_ft:(false==true)=false:=rfl
theorem bool_tf:(true==false)=false:=rfl
def dy(G:GP)(O:zS)(f:FuncId)(id n:Nat):Option (Ex×St)->Option (Ex×St)
 |some (.normal,s')=>match again (G.spec f id) n (ud (sI s'.env s'.heap (G.spec f id).freeze) s')with
  |some Ov=>O.loop f id Ov
  |none=>none
 |some (.exit i,s')=>if i=id then left .normal (leave (G.spec f id) n s')else left (.exit i) (leave (G.spec f id) n s')
 |some (.ret,s')=>left .ret (leave (G.spec f id) n s')
 |none=>none
theorem Pe(id n:Nat)(s:St):dy G O f id n (some (.normal,s))=match again (G.spec f id) n (ud (sI s.env s.heap (G.spec f id).freeze) s)with|some Ov=>O.loop f id Ov|none=>none:=rfl
theorem Pd(id n i:Nat)(s:St):dy G O f id n (some (.exit i,s))=if i=id then left .normal (leave (G.spec f id) n s)else left (.exit i) (leave (G.spec f id) n s):=rfl
theorem Pf(id n:Nat)(s:St):dy G O f id n (some (.ret,s))=left .ret (leave (G.spec f id) n s):=rfl
theorem left_S(ex:Ex)(s:St):left ex (some s)=some (ex,s):=rfl
theorem L_step{fi:FI}(Z4:G.fn f=some fi){id:Nat}{c:Code}(hc:zv fi.body id=some c)(s:St):
  nu G O f id s=dy G O f id s.nx (cont G O f [.code c] (.normal,s)):=by
 unfold nu;rw[Z4];simp only[hc,X_one];cases cont G O f [.code c] (.normal,s)with
 |none=>rfl
 |some x=>obtain⟨e,s'⟩:=x;cases e<;>rfl
def fnE(G:GP)(f:FuncId)(m:Nat)(res:List ResultVar)(s:St):Option (AV×qn):=
 match dx G s res with
 |some vs=>finish m (G.tA f) (o4 vs) s
 |none=>none
def WN(G:GP)(f:FuncId)(m:Nat)(res:List ResultVar):Option (Ex×St)->Option (AV×qn)
 |some (.exit _,_)=>none
 |some (_,s)=>fnE G f m res (mg (G.cmd f 999999) s)
 |none=>none
theorem fnEnd_N(m:Nat)(res:List ResultVar)(s:St):WN G f m res (some (.normal,s))=fnE G f m res (mg (G.cmd f 999999) s):=rfl
theorem fnEnd_R(m:Nat)(res:List ResultVar)(s:St):WN G f m res (some (.ret,s))=fnE G f m res (mg (G.cmd f 999999) s):=rfl
theorem fnE_S(m:Nat)(res:List ResultVar)(E:vF)(H:qn)(nx:Nat):fnE G f m res ⟨E,H,nx⟩=match dx G ⟨E,H,nx⟩ res with|some vs=>finish m (G.tA f) (o4 vs) ⟨E,H,nx⟩|none=>none:=rfl
theorem F_step{fi:FI}(Z4:G.fn f=some fi){H:qn}(hk:yV 0 H=true)(args:List AV):
  iV G O f args H=WN G f H.length fi.results (cont G O f [.code fi.body] (.normal,⟨pJ 0 args,H,H.length⟩)):=by
 unfold iV;rw[Z4];simp only[hk,if_true,X_one];cases cont G O f [.code fi.body] (.normal,⟨pJ 0 args,H,H.length⟩)with
 |none=>rfl
 |some x=>obtain⟨e,s'⟩:=x;cases e<;>rfl
theorem TK{S:nI}{nt:Nat}{ob:Option Code}{ra:Array ResultVar}(hs:S.call f=none)(Z4:G.fn f=some ⟨nt,ra.toList,ob.get!⟩){c:Code}(hc:ob=some c){rs:List ResultVar}(hr:ra=⟨rs⟩){H:qn}
  (hk:yV 0 H=true) {args:List AV} {r:Option (AV×qn)}
  (h:WN G f H.length rs (cont G (omega G S) f [.code c] (.normal,⟨pJ 0 args,H,H.length⟩))=r):(omega G S).call f args H=r:=by
 subst hc hr;rw[Mz hs,F_step Z4 hk];exact h
theorem TM{S:nI}{fi:FI}(Z4:G.fn f=some fi){id:Nat}{c:Code}(hc:zv fi.body id=some c){s:St}{r:Option (Ex×St)}
  (h:dy G (omega G S) f id s.nx (cont G (omega G S) f [.code c] (.normal,s))=r):(omega G S).loop f id s=r:=by
 rw[MA,L_step Z4 hc];exact h
end
end Go.Gm
namespace Go.Gm
open Go Go.RowKit Go.Maps
set_option maxRecDepth 10000
def Gd:List (PV×PV×Nat)->Option (List Int)
 |[]=>some []
 |(.int .i64 k,_,_)::r=>match Gd r with
  |some l=>some (k::l)
  |none=>none
 |_=>none
def M8(x:Int):List Int->List Int
 |[]=>[x]
 |y::r=>if x<=y then x::y::r else y::M8 x r
def mc:List Int->List Int
 |[]=>[]
 |x::r=>M8 x (mc r)
theorem Zc(x:Int): ∀l,(M8 x l).Perm (x::l)
 |[]=> .refl _
 |y::r=>by
  simp only[M8];split
  ·exact .refl _
  exact((Zc x r).cons y).trans (.swap x y r)
theorem lK: ∀l,(mc l).Perm l
 |[]=> .refl _
 |x::r=>(Zc x _).trans ((lK r).cons x)
theorem Ts(x:Int): ∀l,l.Pairwise (· <= ·)->(M8 x l).Pairwise (· <= ·)
 |[],_=>by simp[M8]
 |y::r,h=>by
  simp only[M8];rw[List.pairwise_cons]at h;split
  ·rename_i hxy;refine List.pairwise_cons.2 ⟨fun z hz=>?_,List.pairwise_cons.2 h⟩;rcases List.mem_cons.1 hz with rfl|hz
   ·exact hxy
   exact Int.le_trans hxy (h.1 z hz)
  rename_i hxy;refine List.pairwise_cons.2 ⟨fun z hz=>?_,Ts x r h.2⟩;rcases List.mem_cons.1 ((Zc x r).mem_iff.1 hz)with rfl|hz
  ·omega
  exact h.1 z hz
theorem Bm: ∀l,(mc l).Pairwise (· <= ·)
 |[]=> .nil
 |x::r=>Ts x _ (Bm r)
theorem Bn(l l' :List Int)(h:l'.Perm l):l'.mergeSort (fun x y=>decide (x<=y))=mc l:=by
 have tr: ∀a b c:Int,decide (a<=b)=true->decide (b<=c)=true->decide (a<=c)=true:=fun a b c h1 h2=>by simp only[decide_eq_true_eq]at *; exact Int.le_trans h1 h2
 have to: ∀a b:Int,(decide (a<=b) || decide (b<=a))=true:=fun a b=>by simp only[Bool.or_eq_true,decide_eq_true_eq];exact Int.le_total a b
 refine List.Perm.eq_of_pairwise (le:=fun a b=>a<=b) (fun a b _ _ h1 h2=>Int.le_antisymm h1 h2) ?_ (Bm l) (((List.mergeSort_perm l' _).trans h).trans (lK l).symm);have:=List.pairwise_mergeSort tr to l';exact this.imp fun h=>by simpa using h
def Tv(ks:List Int)(st:List Nat)(zI:Nat):Bool:=
 decide ks.Nodup&&ks.all (fun k=>decide (-9223372036854775808<=k)&&decide (k<=9223372036854775807))&&decide st.Nodup&&st.all (fun b=>decide (b<zI))&&decide (ks.length<=1099511627776)
def tq:List (PV×PV×Nat)->List Nat
 |[]=>[]
 |e::r=>e.2.2::tq r
def Kq(fk:FuncId)(args:List AV)(H:qn):Option (AV×qn):=
 match args,H with
 |[.lp g [] [.ptr 0 0]],[(0,.box [.map 1]),(1,.map es zI)]=>match Gd es with
  |some ks=>if g=fk/\Tv ks (tq es) zI=true then some (.row 2 (mc ks).length 0 (mc ks).length,[(0,.box [.map 1]),(1,.map es zI),(2,.row (mc ks).isEmpty (zC 1 (mc ks)) ((mc ks).map fun k=>[.int .i64 k]))])else none
  |none=>none
 |_,_=>none
theorem V3: ∀{es:List (PV×PV×Nat)}{ks:List Int},Gd es=some ks->ks.length=es.length/\ ∀(i:Nat)(k x:PV)(b:Nat),es[i]? =some (k,x,b)-> ∃n,ks[i]? =some n/\k= .int .i64 n
 |[],ks,h=>by cases h;exact⟨rfl,by simp⟩
 |(p,v,b)::r,ks,h=>by
  cases p with
  |int kd k=>
   cases kd<;>simp only[Gd]at h<;>try cases h
   split at h
   ·rename_i l hl;cases h;obtain⟨h1,h2⟩:=V3 hl;refine⟨by simp[h1],fun i k' x b' hi=>?_⟩;cases i with
    |zero=>simp at hi;obtain⟨rfl,_⟩:=hi;exact⟨k,rfl,rfl⟩
    |succ i=>simpa using h2 i k' x b' (by simpa using hi)
   cases h
  |_=>simp[Gd]at h
theorem eH: ∀es,tq es=es.map (·.2.2)
 |[]=>rfl
 |e::r=>by simp[tq,eH r]
theorem Ga{H:Type}(x:Lit×DataW H): ∀l,(DataW.insert x l).Perm (x::l)
 |[]=> .refl _
 |y::r=>by
  simp only[DataW.insert];split
  ·exact .refl _
  exact((Ga x r).cons y).trans (.swap x y r)
theorem Zd{H:Type}: ∀l:List (Lit×DataW H),(l.foldr DataW.insert []).Perm l
 |[]=> .refl _
 |x::r=>(Ga x _).trans ((Zd r).cons x)
theorem qW.below[zN]{w w' :World}{H:qn}{ι:vG}{Im:Nat->Prop}(hi:qW w H ι Im)(hb:Below w.heap.size w w'):
    qW w' H ι (fun b=>Im b\/(w.heap.size<=b/\b<w'.heap.size))/\w8 w H ι Im w' H ι (fun b=>Im b\/(w.heap.size<=b/\b<w'.heap.size)):=by
  have he:w8 w H ι Im w' H ι (fun b=>Im b\/(w.heap.size<=b/\b<w'.heap.size)):={
    comp:=fun β b h=>⟨b,h,vV b _⟩
    im:=fun _ h=> .inl h
    mr:=fun b h=>h.elim .inl fun h=> .inr (.inl h.1)
    bC:=fun β x z h hu=> .inr ⟨β,x,h,hu⟩
    ka:=fun b h _=>hb.block b h
    size:=hb.size
    io:=⟨hb.os,hb.output⟩ }
  have xB: ∀β b z,H.get β=some b->b.vn (ι β) z->z<w.heap.size:=fun β b z hB hu=>(hi.mW β b hB).rC hu
  refine⟨⟨fun β b hB=>?_,hi.inj,fun b h=>?_,fun β b z hB hu h=>?_,zN.go hi.HY hi.W4 fun b hb=>he.Qm hi b hb,fun b hb=> .inl (hi.W4 b hb)⟩,he⟩
  · exact(hi.mW β b hB).mono hi he fun hu=>⟨rfl,fun x hx=>hb.block _ (xB β b x hB hx)⟩
  · rcases h with h|h
    · exact Nat.lt_of_lt_of_le (hi.im b h) hb.size
    · exact h.2
  · rcases h with h|h
    · exact hi.KH β b z hB hu h
    · have:=xB β b z hB hu
      omega
theorem Bp[zN]{P:Program}{fs fk:FuncId}{kt:TypeId}(hkt:P.underlying kt=some (.int .i64))(hen:enters P fs)
  (sM: ∀(l b nn:Nat)(D0:DataW Unit)(w:World),l<w.heap.size->w.cell? ⟨l,0,none⟩=some (.map (some b))->w.ownsMap P kt (fun _=>some (.nil,[])) b nn D0->Maps.size D0<=maxLen->Maps.size D0*8<=140737488355328->
   Calls P fs #[.func (.func fk) #[] #[.pointer (some ⟨l,0,none⟩)]] w fun e w' => ∃(v:Value)(ss:List Int),e= .returned v/\ss.Perm (intKeys D0)/\w'.ownsRow w.heap.size kt 1 v ss.length ((ss.mergeSort (fun x y=>decide (x<=y))).map encZ)/\(v= .slice none 0 0↔ss=[])/\Below w.heap.size w w')
  {args:List AV} {H:qn} {r:AV} {H' :qn} (h:Kq fk args H=some (r,H')):enters P fs/\ic P fs args H r H' :=by
 refine⟨hen, ?_⟩;unfold Kq at h;split at h
 ·rename_i g es zI;split at h
  ·rename_i ks G3;split at h
   ·rename_i hc;obtain⟨rfl,pB⟩:=hc;cases h;intro w ι Im vs hi hl ha;obtain⟨v0,rfl⟩: ∃v0,vs=[v0]:=by
     match vs,hl with
     |[v0],_=>exact⟨v0,rfl⟩
    have h0:=ha 0 _ _ rfl rfl;cases h0 with
    |lp _ _ _ va vb W8 Ti hA hB=>
    have:va=[]:=by cases va with|nil=>rfl|cons=>simp at W8
    subst this;obtain⟨p0,rfl⟩: ∃p0,vb=[p0]:=by
     match vb,Ti with
     |[p0],_=>exact⟨p0,rfl⟩
    have hp:=hB 0 _ _ rfl rfl;cases hp with
    |ptr _ _ c hbox=>
    have ZK:=hi.mW 0 (.box [.map 1]) rfl;obtain⟨cv,elem,fz,q1,q2,q3,q4,q5⟩:=ZK;obtain⟨m0,hm0⟩: ∃m0,cv[0]? =some m0:=⟨cv[0]'(by rw[<- q3];simp),by simp⟩;have hmr:=q5 0 _ _ rfl hm0;cases hmr with
    |map _ _ _ _=>
    obtain⟨zO,g1,g2,g3⟩:=hi.mW 1 (.map es zI) rfl;obtain⟨k1,k2⟩:=V3 G3;simp only[Tv,zB,decide_eq_true_eq,List.all_eq_true]at pB;obtain⟨⟨⟨⟨f1,f2⟩,f3⟩,f4⟩,f5⟩:=pB;have hbw: ∀β b,qn.get [(0,qC.box [AV.map 1]),(1,qC.map es zI)] β=some b->b.used=true->(ι β).b<w.heap.size:=fun β b hB hu=>(hi.mW β b hB).lt hu;have JG: ∀(i:Nat) e,zO[i]? =some e-> ∃n,ks[i]? =some n/\e.key=encZ n/\e.born=(tq es)[i]?.getD 0/\i<es.length:=by
     intro i e he;have xB:i<es.length:=g2 ▸ (qF he).1;obtain⟨pk,pv,pb,rR⟩: ∃a b c,es[i]? =some (a,b,c):=⟨es[i].1,es[i].2.1,es[i].2.2,by simp[xB]⟩;obtain⟨n,hn,rfl⟩:=k2 i _ _ _ rR;obtain⟨r1,r2,r3⟩:=g3 i _ _ _ e rR he;refine⟨n,hn, ?_,by rw[eH];simp[rR,r3],xB⟩;have:=r1;generalize e.key=kk at this;cases this;rfl
    have hkeys:zO.map (·.key)=ks.map encZ:=by
     apply List.ext_getElem?;intro i;cases he:zO[i]? with
     |none=>
      have h1:zO.length<=i:=by simpa using he
      have h2:ks.length<=i:=by omega
      simp[he,h2]
     |some e=>
      obtain⟨n,hn,hk,_⟩:=JG i e he;simp[he,hn,hk]
    have hborn:zO.map (·.born)=tq es:=by
     apply List.ext_getElem?;intro i;have hsl:(tq es).length=es.length:=by rw[eH];simp
     cases he:zO[i]? with
     |none=>
      have h1:zO.length<=i:=by simpa using he
      have h2:(tq es).length<=i:=by omega
      simp[he,h2]
     |some e=>
      obtain⟨n,_,_,hb,xB⟩:=JG i e he;have:i<(tq es).length:=by omega
      simp[he,hb,this]
    have hrd: ∀(i:Nat) e,zO[i]? =some e-> ∃n,ks[i]? =some n/\WideElems.rd P kt (fun _=>some ((.nil:DataW Unit),[])) e=some (.int .i64 n,.nil):=by
     intro i e he;obtain⟨n,hn,hk,_⟩:=JG i e he;refine⟨n,hn, ?_⟩;obtain⟨b1,b2⟩:=f2 n (qX hn);have hw:(Lit.int .i64 n).wf=true:=by simp[Lit.wf,IntKind.min,IntKind.max,IntKind.signed,IntKind.bits];omega
     simp[WideElems.rd,hk,encZ,keyOf,hkt,mapKey,hw]
    let R:Value->Option (DataW Unit×List MemPlace):=fun _=>some (.nil,[])
    have hgl:(zO.map (WideElems.rg P kt R)).map (fun p=>intOf p.1)=ks:=by
     apply List.ext_getElem?;intro i;cases he:zO[i]? with
     |none=>
      have h1:zO.length<=i:=by simpa using he
      have h2:ks.length<=i:=by omega
      simp[he,h2]
     |some e=>
      obtain⟨n,hn,hk⟩:=hrd i e he;simp[he,hn,WideElems.rg,R,hk,intOf]
    let D0:DataW Unit:= .map ((zO.map (WideElems.rg P kt R)).foldr DataW.insert [])
    have G6:w.ownsMap P kt R (ι 1).b zO.length D0:=by
     refine⟨⟨zO⟩,zI,g1,⟨?_,⟨fun x hx=>?_, ?_, ?_⟩,fun x hx=>?_⟩,xJ _,rfl⟩
     ·show zO.length<=maxLen;simp only[maxLen];omega
     ·apply f4;rw[<- hborn];exact List.mem_map_of_mem hx
     ·show(zO.map (·.born)).Nodup;rw[hborn];exact f3
     ·show(zO.map (·.key)).Nodup;rw[hkeys];exact List.pairwise_map.2 (f1.imp fun jv he=>jv (encZ_inj he))
     obtain⟨i,vq⟩:=jz hx;obtain⟨n,_,hr⟩:=hrd i x vq;exact⟨_,hr⟩
    have hperm:(intKeys D0).Perm ks:=by
     have:=(Zd (zO.map (WideElems.rg P kt R))).map (fun p=>intOf p.1);rw[hgl]at this;exact this
    have bO:Maps.size D0=ks.length:=by
     have:=(Zd (zO.map (WideElems.rg P kt R))).length_eq;show((zO.map (WideElems.rg P kt R)).foldr DataW.insert []).length=_;rw[this];simp;omega
    have JF:w.cell? ⟨(ι 0).b,0,none⟩=some (.map (some (ι 1).b)):=by
     simp[World.cell?,q1,hm0]
    refine(sM (ι 0).b (ι 1).b zO.length D0 w (hbw 0 _ rfl rfl) JF G6 (by rw[bO];simp only[maxLen];omega) (by rw[bO];omega)).mono ?_;rintro e w' ⟨v,ss,rfl,hS,cD,Xl,hb⟩;have El:=hS.trans hperm;rw[Bn ks ss El]at cD;obtain⟨w1,w2⟩:=cD;have hlen:(mc ks).length=ss.length:=((lK ks).trans El.symm).length_eq;rcases w2 with ⟨rfl,hz⟩|⟨g0,cap,cur,rfl,c1,c2,c3,c4,c5,c6⟩
    ·have e2:mc ks=[]:=List.length_eq_zero_iff.1 (by omega);rw[e2];obtain⟨hI,hE⟩:=qW.put (Qf:=GC rfl) hi (w' :=w') 2 (.row true 0 []) ⟨0,0,[]⟩ (fun x hx=>by cases hx) ⟨hb.size,hb.os,hb.output⟩ (fun b h _=>hb.block b h) (fun h=>by cases h) (fun _=>rfl);refine⟨_,_,_,rfl,hI,hE, ?_⟩;exact .row 2 0 0 0 _ (.row true 0 []) rfl rfl (fun _=>⟨_,_,_,rfl⟩) (fun _ _ _ e=>by cases e;exact xJ _) (fun _ _ _ e _=>by cases e;exact⟨xJ _,rfl⟩)
    have jv:ss≠[]:=fun e=>by
     have:=Xl.2 e;cases this
    have e1:(mc ks).isEmpty=false:=by
     cases hs:mc ks with
     |nil=>rw[hs]at hlen;exact absurd (List.length_eq_zero_iff.1 hlen.symm) jv
     |cons=>rfl
    have e2:zC 1 (mc ks)=1:=by
     cases hs:mc ks with
     |nil=>rw[hs]at hlen;exact absurd (List.length_eq_zero_iff.1 hlen.symm) jv
     |cons=>rfl
    rw[e1,e2];have Yq: ∀(i:Nat)(n:Int),(mc ks)[i]? =some n->cur[i]? =some (encZ n):=by
     intro i n hn;have h1:i<(mc ks).length:=(qF hn).1;have h2:(cur.toList.take (ss.length*1))[i]? =some (encZ n):=by rw[c6];simp[hn]
     rw[List.getElem?_take_of_lt (by omega)]at h2;rw[<- Array.getElem?_toList];exact h2
    have JH:((mc ks).map fun k=>[PV.int .i64 k]).length=(mc ks).length:=List.length_map _;obtain⟨hI,hE⟩:=qW.put (Qf:=GC rfl) hi (w' :=w') 2 (.row false 1 ((mc ks).map fun k=>[PV.int .i64 k])) ⟨g0,cap,[]⟩ (fun x hx=>by cases hx) ⟨hb.size,hb.os,hb.output⟩ (fun b h _=>hb.block b h) (fun _=> .inl c1) (fun _=>by
     refine⟨cur,kt,(0,0),by simpa using c2,xE _,by simpa using c5,by omega,by rw[JH];simpa using(by omega:(mc ks).length<=cap),fun e he=>?_,fun i e j p h1 h2=>?_,fun i e j p h1 h2=>?_⟩
     ·obtain⟨k,_,rfl⟩:=List.mem_map.1 he
      rfl
     ·simp only[List.getElem?_map,yi]at h1
      obtain⟨n,hn,rfl⟩:=h1
      cases j with
      |zero=>simp at h2;subst h2;rfl
      |succ j=>simp at h2
     simp only[List.getElem?_map,yi]at h1
     obtain⟨n,hn,rfl⟩:=h1
     cases j with
     |zero=>
      simp at h2
      subst h2
      exact⟨encZ n,by simpa using Yq i n hn,.int .i64 n⟩
     |succ j=>simp at h2)
    refine⟨_,_,_,rfl,hI,hE, ?_⟩;refine .row 2 _ 0 _ _ (.row false 1 ((mc ks).map fun k=>[PV.int .i64 k])) rfl rfl (fun _=>⟨_,_,_,rfl⟩) (fun _ _ _ e=>by cases e;rw[JH];exact xJ _) (fun _ _ _ e _=>?_);cases e;refine⟨by rw[JH];omega, ?_⟩;simp only[w9,if_false];exact⟨⟨g0,0,none⟩,by rw[hlen];simp,rfl,by simp,fun _=>by simp⟩
   cases h
  cases h
 cases h
end Go.Gm
namespace Go.Gm
open Go Go.RowKit Go.Sort
end Go.Gm
namespace Go.Gm
open Go
def XR(t:TypeId)(args:List AV)(H:qn):Option (AV×qn):=
 match args with
 |[.ptr β 0]=>match H.get β with
  |_=>none
 |_=>none
theorem Pr[zN]{P:Program}{f:FuncId}{t:TypeId}(hen:enters P f)
  (To: ∀(b:Nat)(w:World),w.cell? ⟨b,0,none⟩=some (.pointer (some ⟨b,0,none⟩))->Calls P f #[.pointer (some ⟨b,0,none⟩)] w fun e w' =>e= .returned (.tuple #[])/\w' =w)
  (ep: ∀(b:Nat)(w:World),w.cell? ⟨b,0,none⟩=some (.pointer none)->w.shape? b=some (t,2)->w.frozen? ⟨b,0,none⟩=false->
   Calls P f #[.pointer (some ⟨b,0,none⟩)] w fun e w' =>e= .returned (.tuple #[])/\w' =w.setCell ⟨b,0,none⟩ (.pointer (some ⟨b,0,none⟩)))
  {args:List AV} {H:qn} {r:AV} {H' :qn} (h:XR t args H=some (r,H')):enters P f/\ic P f args H r H' :=by
 refine⟨hen, ?_⟩;unfold XR at h;split at h;rotate_left
 ·cases h
 rename_i β;split at h;cases h
end Go.Gm
