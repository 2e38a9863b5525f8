/-
  The machine, part c.
-/
import Derived.Test.YtoflcafolmmaaaaGreatQab
import Derived.Below
import Derived.Deep.Draws
import Derived.Laws.AppendOwn
import Derived.Lib.ItoaNum
import Derived.Lib.LaidTab
import Derived.Lib.SlKeysI
import Derived.LoopN
import Derived.Maps.Own
import Derived.OpenShut
import Derived.Orders
import Derived.ProofKit
import Derived.Sort.Grow
open Array renaming getElem?_toList->H?,getElem?_eq_some_iff->H!,replicate->y_,getD->R_
open Bool renaming or_eq_true->g!,not_eq_true'->w_,false_or->q1d
open Go.Gm.AV renaming refs->O?
open Go.Gm.Act renaming put_defers->C_,X7->q1u
open Go.Gm.pA renaming off->q1m
open Go.Gm.qD renaming refs->q0t
open Go.Gm.qp renaming zg->p!,get->A!,put->q_,upto->U',below->q1l
open Go.Gm.wU renaming refl->W!
open Go.Gm.yo renaming get->V!
open Go.Sem renaming run_pure->K?
open Int renaming le_trans->I'
open List renaming length_cons->g?,mem_append->m?,getElem?_append_left->p?,map_cons->s?,getElem?_cons_zero->a?,getElem?_cons_succ->l?,getElem?_map->X?,getElem?_append_right->J?,mem_cons->U?,mem_map->N?,range->E?,nodup_append->x!,all_eq_true->Z!,pairwise_cons->J!,filter_cons->T!,getElem?_eq_none->t_,append_nil->N_,mem_cons_of_mem->V',range_eq_range'->Y',range'_succ->q0u,flatMap_nil->q0v,nodup_range->q0w,mapM_cons->q13,drop_drop->q18,range'->q1p
open Nat renaming strongRecOn->r?,add_zero->D?,zero_add->A?,le_trans->n!,mul_comm->X!,lt_of_lt_of_le->U!,zero_le->B!,lt_trichotomy->E!,lt_succ_of_lt->K_,exists_eq_add_of_le->F_,lt_succ_self->q11,testBit_or->q1c
open Ne renaming symm->u_
open Option renaming getD_some->c!,bind_eq_some_iff->R!
set_option linter.unusedSimpArgs false
set_option linter.unusedVariables false
set_option linter.unusedSectionVars false
namespace Go.Gm
open Go
section
variable [xd] {P:Program} {w:World} {H:qp} {ι:yp} {Im:Nat->Prop}
theorem W0{ops:Array Oper}{a:Act}{E:yo}(hE: ∀t,RA w H ι Im (E.get t) (a.tmps.getD t undef)){o:Oper}{b:Bool}(h:yB ops.toList o E=some b):
  Region.wanted o (yielded ops a.tmps)=b:=by
 unfold yB at h;unfold Region.wanted;split at h;rename_i hg;rw[hg];cases h;rfl;rename_i j want hg;rw[hg];simp only;split at h;(rename_i oj hoj;have hoj' :ops[j]? =some oj:=by rw[<- H?];exact hoj);split at h;(rename_i d hd;have hyd:yielded ops a.tmps j=match a.tmps[d]? with|some (.bool b)=>some b|_=>none:=by simp only[yielded,hoj',qS,hd];rfl);(rw[hyd];have hr:=hE d;have hgd:a.tmps.getD d undef=(a.tmps[d]?).getD undef:=by simp[R_,getElem?_def];split<;>simp[*]);rw[hgd]at hr;split at h;(rename_i b0 Xk;cases h;rw[Xk]at hr;have hp:=hr.gA;cases ht:a.tmps[d]? with|none=>rw[ht]at hp;cases hp|some v=>rw[ht]at hp;simp only[c!]at hp;cases hp;simp only;cases b0<;>cases want<;>rfl);(rename_i Xk;cases h;rw[Xk]at hr;cases ht:a.tmps[d]? with|none=>rfl|some v=>rw[ht]at hr;simp only[c!]at hr;cases hr with|xR _ vs=>rfl);cases h;(rename_i hd;cases h;have:yielded ops a.tmps j=none:=by simp[yielded,hoj',hd]);rw[this];rfl;rename_i hoj;cases h;have hoj' :ops[j]? =none:=by rw[<- H?];exact hoj
 have:yielded ops a.tmps j=none:=by simp[yielded,hoj']
 rw[this];rfl
theorem skip_inv{a:Act}{s:St}{nt:Nat}(h:Inv w a s ι Im nt)(d:Option Tmp)(hd: ∀t,d=some t->t<nt):
  Inv w (a.put d undef) { s with env:=fj d (.xR []) s.env } ι Im nt where
 heap:=h.heap
 env:=K1 h.env h.size hd NK
 nx:=h.nx
 size:=by rw[q1u];exact h.size
 defers:=by rw[C_];exact h.defers
theorem Uz{G:GP}{O:xi}(hG:yA P G)(hO:SoundCall P O){nt:Nat}(ops:Array Oper)(hd:Y8 nt ops.toList)(Q:Exit->Act->World->Prop):
  ∀(rest:List Oper)(k:Nat),ops.toList.drop k=rest-> ∀{w:World}{ι:yp}{Im:Nat->Prop}{a:Act}{s s' :St},Inv w a s ι Im nt->Xz G O ops.toList rest s=some s' ->
   (∀ a' w',aE w s.heap ι Im nt s' a' w' ->Q .normal a' w')->wpOps P ops Q (q1p k rest.length) a w
 |[],k,_,w,ι,Im,a,s,s',h,hr,hq=>by cases hr;exact hq a w ⟨ι,Im,h,W! _ _ _ _⟩
 |o::rest,k,pB,w,ι,Im,a,s,s',h,hr,hq=>by (have hk:ops.toList[k]? =some o:=by have:=congrArg (fun l=>l[0]?) pB;simpa using this);(have Xm:ops[k]? =some o:=by rw[<- H?];exact hk);(have L8:ops.toList.drop (k+1)=rest:=by have:=congrArg (fun l=>l.drop 1) pB;simpa[q18]using this);have hdo: ∀t,o.dst=some t->t<nt:=hd o (z7 hk);simp only[g?,q0u,wpOps,Xm];simp only[Xz]at hr;split at hr;{rename_i hg;rw[W0 h.env hg,if_pos rfl];obtain⟨iX,h1,e1⟩:=tz (Nq G o.op s.env) h;split at hr;rotate_left;cases hr;rename_i s1 nH;refine .inl (stepO_ok hG hO h1 o hdo nH _ _ fun a' w' aA=>?_);obtain⟨ι2,Gd,h2,e2⟩:=aA;exact Uz hG hO ops hd Q rest (k+1) L8 h2 hr fun a'' w'' h3=>hq a'' w'' (h3.from (e1.trans e2))};rename_i hg;rw[W0 h.env hg,if_neg z?];exact Uz hG hO ops hd Q rest (k+1) L8 (skip_inv h o.dst hdo) hr fun a'' w'' h3=>hq a'' w'' h3;cases hr
theorem Ao{G:GP}{O:xi}(hG:yA P G)(hO:SoundCall P O){nt:Nat}(id:Nat)(ops:Array Oper)(hd:Y8 nt ops.toList)
  {a:Act} {s s' :St} (h:Inv w a s ι Im nt) (hr:Xz G O ops.toList ops.toList s=some s') (Q:Exit->Act->World->Prop)
  (hq: ∀a' w',aE w s.heap ι Im nt s' a' w' ->Q .normal a' w'):(Code.region id ops false).wp P Q a w:=by refine wp_region ?_;have:=Uz hG hO ops hd Q ops.toList 0 z? h hr hq;rw[Y'];simpa using this
end
def xA(L:List Nat)(H H' :qp):Prop:= ∀γ∈L,H'.get γ=H.get γ
section
variable {H H' :qp}
theorem xA.app{A B:List Nat}(h:xA (A++B) H H'):xA A H H' /\xA B H H' :=
 ⟨fun γ hγ=>h γ (by simp[hγ]),fun γ hγ=>h γ (by simp[hγ])⟩
theorem B5{ti:TI}{a:AV}(h:xA a.refs H H'):QC ti a H' =QC ti a H:=by cases a<;>simp only[QC];rename_i p;cases p<;>rfl;rename_i β o;rw[h β (by simp[O?])];rename_i β v i o;rw[h β (by simp[O?])]
theorem Ux{ti:TI}{a v:AV}(h:xA a.refs H H'):o6 ti a v H' =o6 ti a v H:=by cases a<;>simp only[o6];rename_i β o;rw[h β (by simp[O?])];rename_i β v i o;rw[h β (by simp[O?])]
theorem eF{v:AV}(h:xA v.refs H H'):yH v H' =yH v H:=by cases v with|pv p=>(cases p<;>first|rfl|(rename_i b _ _;cases b<;>rfl))|row β xc off n=>simp only[yH];rw[h β (by simp[O?])]|_=>rfl
theorem HW{v:AV}(h:xA v.refs H H'):Q1 v H' =Q1 v H:=by cases v with|row β xc off n=>simp only[Q1];rw[h β (by simp[O?])]|_=>rfl
theorem Km{te:TI}{s x:AV}{nx:Nat}(h1:xA s.refs H H')(h2:xA x.refs H H'):mE te s x H' nx=mE te s x H nx:=rfl
theorem Vj{te:TI}{s x:AV}{nx:Nat}(h1:xA s.refs H H')(h2:xA x.refs H H'):uU te s x H' nx=uU te s x H nx:=by unfold uU;rw[eF h2,Km h1 h2];cases s with|row β xc off n=>simp only;rw[h1 β (by simp[O?])]|pv p=>(cases p<;>first|rfl|(rename_i b _ _;cases b<;>rfl))|_=>rfl
theorem B0{te:TI}{s x:AV}{nx:Nat}(h1:xA s.refs H H')(h2:xA x.refs H H'):ZB te s x H' nx=ZB te s x H nx:=by unfold ZB;rw[eF h2];cases s with|row β xc off n=>simp only;rw[h1 β (by simp[O?])]|pv p=>(cases p<;>first|rfl|(rename_i b _ _;cases b<;>rfl))|_=>rfl
theorem Xt{td:TD}{iV:TypeId->Option TI}{x i:AV}(h:xA x.refs H H'):tq td iV x i H' =tq td iV x i H:=by unfold tq;cases x with|row β xc off n=>simp only;rw[h β (by simp[O?])]|pv p=>(cases p<;>first|rfl|(rename_i b _ _;cases b<;>rfl))|_=>rfl
theorem Uw{td:TD}{iV:TypeId->Option TI}{ρ:Operand->AV}{x:AV}{lo hi mx:Option Operand}(h:xA x.refs H H'):ei td iV ρ x lo hi mx H' =ei td iV ρ x lo hi mx H:=by unfold ei;cases x with|row β xc off n=>simp only;rw[h β (by simp[O?])]|pv p=>(cases p<;>first|rfl|(rename_i b _ _;cases b<;>rfl))|_=>rfl
theorem Kx{td:TD}{v:AV}(h:xA v.refs H H'):dc td v H' =dc td v H:=by unfold dc;cases v with|row β xc off n=>simp only;rw[h β (by simp[O?])]|pv p=>(cases p<;>first|rfl|(rename_i b _ _;cases b<;>rfl))|_=>rfl
theorem Dp{iV:TypeId->Option TI}{ti:TI}{x y:AV}(h1:xA x.refs H H')(h2:xA y.refs H H'):aEq iV ti x y H' =aEq iV ti x y H:=by unfold aEq;split;rfl;rfl;rw[Kx h1,Kx h2]
theorem Pf{iV:TypeId->Option TI}{op:BinOp}{ti:TI}{x y:AV}(h1:xA x.refs H H')(h2:xA y.refs H H'):Pe iV op ti x y H' =Pe iV op ti x y H:=by have e:aEq iV ti x y H' =aEq iV ti x y H:=Dp h1 h2;unfold Pe;split;rfl;rfl;split;rfl;rfl;rw[e]
theorem Kt{src dst:TD}{dte:TypeId->Option TI}{x:AV}{nx:Nat}(h:xA x.refs H H'):ry src dst dte x H' nx=ry src dst dte x H nx:=by have e:yH x H' =yH x H:=eF h;unfold ry;split<;>first|rfl|(rw [e])
theorem JC{G:GP}{t:TypeId}{x:AV}{nx:Nat}(h:xA x.refs H H'):tH G t x H' nx=tH G t x H nx:=rfl
theorem Kw{tk te:TI}{m k:AV}{ok:Bool}(h:xA m.refs H H'):ll tk te m k ok H' =ll tk te m k ok H:=rfl
theorem Ky{tk:TI}{m k v:AV}(h:xA m.refs H H'):dU tk m k v H' =dU tk m k v H:=rfl
theorem B2{m:AV}{k:PV}(h:xA m.refs H H'):Kv m k H' =Kv m k H:=by cases m with|map β=>simp only[Kv];rw[h β (by simp[O?])]|pv p=>(cases p<;>first|rfl|(rename_i b _ _;cases b<;>rfl))|_=>rfl
theorem Vq{tk te:TI}{m k:AV}{ok:Bool}(h:xA m.refs H H'):aF tk te m k ok H' =aF tk te m k ok H:=by cases k with|pv p=>simp only[aF,B2 h]|_=>rfl
theorem QD{tk:TI}{m k:AV}{v:PV}(h:xA m.refs H H'):rz tk m k v H' =rz tk m k v H:=by cases m<;>first|rfl|(cases k<;>first|rfl|(simp only[rz];rw[h _ (by simp[O?])]))
theorem Uv{tk te:TI}{m k:AV}(h:xA m.refs H H'):lk tk te m k H' =lk tk te m k H:=rfl
theorem ZC{m st:AV}{v:PV}(h:xA m.refs H H'):bD m st v H' =bD m st v H:=rfl
theorem Vm{tk:TI}{m k:AV}(h:xA m.refs H H'):sV tk m k H' =sV tk m k H:=by cases m<;>first|rfl|(cases k<;>first|rfl|(simp only[sV];rw[h _ (by simp[O?])]))|(rename_i p;cases p<;>first|rfl|(cases k<;>rfl))
theorem Pk{x:AV}(h:xA x.refs H H'):B4 x H' =B4 x H:=by cases x with|row β xc off n=>simp only[B4];rw[h β (by simp[O?])]|map β=>simp only[B4];rw[h β (by simp[O?])]|pv p=>(cases p<;>first|rfl|(rename_i b _ _;cases b<;>rfl))|_=>rfl
theorem Ko{e:TypeId}{te:TI}{s x:AV}{nx:Nat}(h1:xA s.refs H H')(h2:xA x.refs H H'):gZ e te s x H' nx=gZ e te s x H nx:=rfl
theorem Kn{te:TI}{s x:AV}{nx:Nat}(h1:xA s.refs H H')(h2:xA x.refs H H'):nK te s x H' nx=nK te s x H nx:=by unfold nK;rw[HW h2];cases s with|row β xc off n=>simp only;rw[h1 β (by simp[O?])]|_=>rfl
theorem Xu{x:AV}{nx:Nat}(h:xA x.refs H H'):tu x H' nx=tu x H nx:=rfl
theorem Qu{el:TypeId}{p x:AV}{nx:Nat}(h:xA p.refs H H'):gv el p x H' nx=gv el p x H nx:=rfl
theorem Kr{G:GP}{b:Builtin}{ch:List TypeId}{args:List AV}{nx:Nat}(h:xA (AV.refs.pH args) H H'):ru G b ch args H' nx=ru G b ch args H nx:=by unfold ru;split;have h1:=(xA.app h).1;simp only[Pk h1];have h1:=(xA.app h).1;simp only[Xu h1];have h1:=(xA.app h).1;simp only[Qu h1];rfl;rfl;rename_i s x;have h1:xA s.refs H H' :=fun γ hγ=>h γ (by simp[AV.refs.pH,hγ]);have h2:xA x.refs H H' :=fun γ hγ=>h γ (by simp[AV.refs.pH,hγ]);simp only[Vj h1 h2,Ko h1 h2,Kn h1 h2];rename_i s x;have h1:xA s.refs H H' :=fun γ hγ=>h γ (by simp[AV.refs.pH,hγ]);have h2:xA x.refs H H' :=fun γ hγ=>h γ (by simp[AV.refs.pH,hγ]);simp only[B0 h1 h2];rename_i m k;have h1:xA m.refs H H' :=fun γ hγ=>h γ (by simp[AV.refs.pH,hγ]);simp only[Vm h1];rfl
theorem lT: ∀(n:Nat)(r d:List Nat),xA (nR H n r d) H H' ->nR H' n r d=nR H n r d
 |0,_,_,_=>rfl
 |n+1,[],d,_=>rfl
 |n+1,β::r,d,h=>by simp only[nR]at h |-;by_cases c:Wm d β=true;rw[if_pos c]at h |-;rw[if_pos c];exact lT n r d h;(rw[if_neg c]at h |-;rw[if_neg c];have dE:β∈nR H n (r++(sc H β).refs) (d++[β]):=by (have key: ∀(n:Nat)(r d:List Nat)(x:Nat),x∈d->x∈nR H n r d:=by intro n;induction n with|zero=>intro r d x hx;exact hx|succ n ih=>intro r d x hx;cases r with|nil=>exact hx|cons β r=>simp only[nR];split;exact ih _ _ _ hx;exact ih _ _ _ (by simp[hx]));exact key _ _ _ _ z?);(have hb:sc H' β=sc H β:=by simp only[sc,h β dE]);rw[hb];exact lT n _ _ h
theorem lx{L:List Nat}: ∀(l:List Nat),xA l H H' ->pP H' L l=pP H L l
 |[],_=>rfl
 |β::r,h=>by simp only[pP];rw[h β z?,lx r fun γ hγ=>h γ (by simp[hγ])]
theorem Wz{g:Nat->Nat}: ∀(i:Nat)(l:List Nat),xA l H H' ->pick H' g i l=pick H g i l
 |_,[],_=>rfl
 |i,β::r,h=>by (simp only[pick];rw[Wz (i+1) r fun γ hγ=>h γ (by simp[hγ])];have:sc H' β=sc H β:=by simp only[sc,h β z?]);rw[this]
theorem VX{roots:List Nat}(h:xA (nR H 400 roots []) H H'):s9 H' [] roots=s9 H [] roots:=by cases roots with|nil=>rfl|cons β r=>(have h' :xA (nR H 400 ((β::r)++([]:List Nat).flatMap fun β=>(sc H β).refs) []) H H' :=by simpa using h);have e:=lT 400 _ _ h';simp only[q0v]at e h';simp only[s9,q0v,e,lx _ h',Wz 0 _ h']
theorem J5{O:xi}{f:FuncId}{args:List AV}{nx:Nat}(h:xA (nR H 400 (AV.refs.pH args) []) H H'):eM O f args H' nx=eM O f args H nx:=by unfold eM;rw[VX h]
theorem ND{ps:List (Nat×Operand)}{E E' :yo}(h: ∀x∈ps.map (·.2),ev E' x=ev E x): ∀x∈ps,ev E' x.2=ev E x.2:=fun x hx=>h x.2 (N?.2 ⟨x,hx,rfl⟩)
theorem BE{qZ:Nat->Option (Nat×Nat)}{E E' :yo}: ∀(l:List (Nat×Operand))(c:List AV),(∀ x∈l,ev E' x.2=ev E x.2)->lD qZ (ev E') l c=lD qZ (ev E) l c
 |[],_,_=>rfl
 |(i,x)::r,c,h=>by have hx:ev E' x=ev E x:=h (i,x) z?;simp only[lD,hx];split;split;exact BE r _ fun y hy=>h y (by simp[hy]);rfl;rfl
theorem KS{size:Nat}{E E' :yo}: ∀(l:List (Nat×Operand))(c:List (List PV)),(∀ x∈l,ev E' x.2=ev E x.2)->rB size (ev E') l c=rB size (ev E) l c
 |[],_,_=>rfl
 |(i,x)::r,c,h=>by have hx:ev E' x=ev E x:=h (i,x) z?;simp only[rB,hx];split;split;exact KS r _ fun y hy=>h y (by simp[hy]);rfl;rfl
theorem Ja{size:Nat}{E E' :yo}: ∀(l:List (Nat×Operand))(c:List (List AV)),(∀ x∈l,ev E' x.2=ev E x.2)->pQ size (ev E') l c=pQ size (ev E) l c
 |[],_,_=>rfl
 |(i,x)::r,c,h=>by have hx:ev E' x=ev E x:=h (i,x) z?;simp only[pQ,hx];split;exact Ja r _ fun y hy=>h y (by simp[hy]);rfl
theorem Tr{E E' :yo}(l:List Operand)(h: ∀x∈l,ev E' x=ev E x):l.map (ev E')=l.map (ev E):=List.map_congr_left h
theorem Du{G:GP}{O:xi}{o:Op}{E E' :yo}{nx:Nat}(hE: ∀x∈o.operands,ev E' x=ev E x)(hH:xA (tg o E H) H H'):mB G O o E' H' nx=mB G O o E H nx:=by cases o with|move x=>simp only[mB,hE x (by simp[Op.operands])]|assign x=>simp only[mB,hE x (by simp[Op.operands])]|pick c a b=>simp only[mB,hE c (by simp[Op.operands]),hE a (by simp[Op.operands]),hE b (by simp[Op.operands])]|alloc t=>rfl|box t x=>simp only[mB,hE x (by simp[Op.operands])]|build t ps=>have h:=ND (ps:=ps.toList) (E:=E) (E' :=E') (fun x hx=>hE x (by simpa[Op.operands]using hx));simp only[mB,Kp,BE _ _ h]|buildSlice t n ps=>have h:=ND (ps:=ps.toList) (E:=E) (E' :=E') (fun x hx=>hE x (by simpa[Op.operands]using hx));simp only[mB,KS _ _ h,Ja _ _ h]|load t a=>simp only[mB,hE a (by simp[Op.operands]),B5 hH]|store t a x=>simp only[mB,hE a (by simp[Op.operands]),hE x (by simp[Op.operands]),Ux hH]|nilCheck x=>simp only[mB,hE x (by simp[Op.operands])]|binOp op t x y z=>obtain⟨h1,h2⟩:=xA.app hH;simp only[mB,hE x (by simp[Op.operands]),hE y (by simp[Op.operands]),Pf h1 h2]|unOp op t x=>simp only[mB,hE x (by simp[Op.operands])]|convert s d x=>simp only[mB,hE x (by simp[Op.operands]),Kt hH,JC hH]|makeFunc fn a b=>(cases fn with|func f=>(have h1:=Tr a.toList (E:=E) (E' :=E') (fun x hx=>hE x (by simp[Op.operands]at hx |-; exact .inl hx));have h2:=Tr b.toList (E:=E) (E' :=E') (fun x hx=>hE x (by simp[Op.operands]at hx |-; exact .inr hx));simp only[mB];generalize a.toList=la at h1;generalize b.toList=lb at h2;cases la<;>cases lb<;>first|rfl|(simp only[h1,h2]))|_=>rfl)|makeMap t r=>cases r<;>rfl|makeSlice t l c=>simp only[mB,hE l (by simp[Op.operands]),hE c (by simp[Op.operands])]|slice t x lo hi mx=>(have hx:=hE x (by simp[Op.operands]);have h1: ∀d,ki (ev E') d lo=ki (ev E) d lo:=fun d=>by cases lo with|none=>rfl|some y=>simp only[ki,hE y (by simp[Op.operands])]);(have h2: ∀d,ki (ev E') d hi=ki (ev E) d hi:=fun d=>by cases hi with|none=>rfl|some y=>simp only[ki,hE y (by simp[Op.operands])]);(have h3: ∀d,ki (ev E') d mx=ki (ev E) d mx:=fun d=>by cases mx with|none=>rfl|some y=>simp only[ki,hE y (by simp[Op.operands])]);(have key: ∀td iV H,ei td iV (ev E') (ev E x) lo hi mx H=ei td iV (ev E) (ev E x) lo hi mx H:=by intro td iV H;unfold ei;simp only[h1,h2,h3]);simp only[mB,hx,key,Uw hH]|fieldAddr t x f=>simp only[mB,hE x (by simp[Op.operands])]|field t x f=>simp only[mB,hE x (by simp[Op.operands])]|indexAddr t x i=>simp only[mB,hE x (by simp[Op.operands]),hE i (by simp[Op.operands]),Xt hH]|index t x i=>simp only[mB,hE x (by simp[Op.operands]),hE i (by simp[Op.operands])]|lookup t m k ok=>simp only[mB,hE m (by simp[Op.operands]),hE k (by simp[Op.operands]),Vq hH,Kw hH]|mapUpdate t m k x=>simp only[mB,ln,hE m (by simp[Op.operands]),hE k (by simp[Op.operands]),hE x (by simp[Op.operands]),QD hH,Ky hH]|insert t m k x=>simp only[mB,hE m (by simp[Op.operands]),hE k (by simp[Op.operands]),hE x (by simp[Op.operands]),QD hH]|mapEntry t m k=>simp only[mB,hE m (by simp[Op.operands]),hE k (by simp[Op.operands]),Uv hH]|entryStore t m st x=>simp only[mB,hE m (by simp[Op.operands]),hE st (by simp[Op.operands]),hE x (by simp[Op.operands]),ZC hH]|extract t i=>simp only[mB,hE t (by simp[Op.operands])]|call c=>(obtain⟨callee,args,ch⟩:=c;have ha:=Tr args.toList (E:=E) (E' :=E') (fun x hx=>hE x (by simp[Op.operands,Call.operands];right;simpa using hx));cases callee with|builtin b=>simp only[mB,ha,Kr hH]|value f=>have hf:=hE f (by simp[Op.operands,Call.operands]);simp only[mB,hf,ha];simp only[tg]at hH;split;rename_i g hg;rw[hg]at hH;exact J5 hH;rename_i g a b hg;rw[hg]at hH;exact J5 hH;rfl|_=>rfl)|_=>rfl
end
structure Rc where
 E:yo
 H:qp
 nx:Nat
 on:Bool
 v:AV
 ws:List (Nat×qD)
 fg:Nat
 rd:List Nat
def Rc.keys(c:Rc):List Nat:=c.ws.map (·.1)
mutual
theorem PV.Ql: ∀{x y:PV},PV.kF x y=true->x=y:=by
 intro x y h;cases x<;>cases y<;>first|(simp [PV.kF]at h;done)|(simp only[PV.kF,zQ,beq_iff_eq,decide_eq_true_eq]at h)
 all_goals first|rfl|(rw [h];done)|(rw [h.1,h.2];done)|(rw [PV.d6 h];done)|(rw [h.1.1,h.1.2,PV.sU h.2];done)
theorem PV.d6: ∀{x y:List PV},PV.au x y=true->x=y:=by
 intro x y h;cases x<;>cases y<;>first|(simp [PV.au]at h;done)|rfl|skip
 simp only[PV.au,zQ]at h;rw[PV.Ql h.1,PV.d6 h.2]
theorem PV.sU: ∀{x y:List (List PV)},PV.sT x y=true->x=y:=by
 intro x y h;cases x<;>cases y<;>first|(simp [PV.sT]at h;done)|rfl|skip
 simp only[PV.sT,zQ]at h;rw[PV.d6 h.1,PV.sU h.2]
end
theorem AV.Ql{x y:AV}(h:AV.kF x y=true):x=y:=by
 cases x<;>cases y<;>first|(simp [AV.kF]at h;done)|rfl|(simp only[AV.kF,zQ,decide_eq_true_eq]at h)
 all_goals first|(rw [PV.Ql h];done)|(obtain ⟨⟨⟨h1,h2⟩,h3⟩,h4⟩:=h;subst h1 h2 h3 h4;rfl)|(obtain ⟨h1,h2⟩:=h;subst h1 h2;rfl)|(subst h;rfl)
theorem AV.d6: ∀{x y:List AV},AV.au x y=true->x=y
 |[],[],_=>rfl
 |[],_::_,h=>by simp[AV.au]at h
 |_::_,[],h=>by simp[AV.au]at h
 |_::_,_::_,h=>by simp only[AV.au,zQ]at h;rw[AV.Ql h.1,AV.d6 h.2]
theorem AV.sU: ∀{x y:List (List AV)},AV.sT x y=true->x=y
 |[],[],_=>rfl
 |[],_::_,h=>by simp[AV.sT]at h
 |_::_,[],h=>by simp[AV.sT]at h
 |_::_,_::_,h=>by simp only[AV.sT,zQ]at h;rw[AV.d6 h.1,AV.sU h.2]
theorem qD.Ql{x y:qD}(h:qD.kF x y=true):x=y:=by
 cases x<;>cases y<;>first|(simp [qD.kF]at h;done)|rfl|(simp only[qD.kF,zQ,decide_eq_true_eq,beq_iff_eq]at h)
 all_goals first|(rw [AV.d6 h];done)|(rw [h.1,AV.d6 h.2];done)|(rw [h.1,AV.sU h.2];done)|(rw [h.1.1,h.1.2,PV.sU h.2];done)|(rw [h.1.1.1,h.1.1.2,h.1.2,PV.sU h.2];done)
theorem Ys{H:qp}{β:Nat}{b:qD}(h:Tk H β b=true):H.get β=some b:=by unfold Tk at h;split at h;rename_i c hc;rw[hc,qD.Ql h];cases h
theorem V4(rd:List Nat): ∀(ws:List (Nat×qD))(H:qp)(x:Nat×qD),x∈trim rd H ws->x∈ws
 |[],H,x,h=>by simp[trim]at h
 |(β,b)::r,H,x,h=>by rw[trim]at h;split at h;exact V' _ (V4 rd r H x h);rcases U?.1 h with rfl|h;exact List.mem_cons_self;exact V' _ (V4 rd r _ x h)
theorem V2(rd:List Nat): ∀(ws:List (Nat×qD))(H:qp)(γ:Nat),γ∈ws.map (·.1)->γ∈(trim rd H ws).map (·.1)\/ ∃b,H.get γ=some b
 |[],H,γ,h=>by simp at h
 |(β,b)::r,H,γ,h=>by rw[trim];simp only[s?,U?]at h;split;rename_i hc;simp only[zQ]at hc;rcases h with rfl|h;exact .inr ⟨_,Ys hc.2⟩;exact V2 rd r H γ h;rcases h with rfl|h;exact .inl z?;rcases V2 rd r (H.put β b) γ h with h|⟨c,h⟩;exact .inl (by simp[h]);rw[p!]at h;split at h;rename_i e;exact .inl (by simp[e]);exact .inr ⟨c,h⟩
theorem aR: ∀(ws:List (Nat×qD))(H H' :qp)(γ:Nat),γ∈ws.map (·.1)->(z6 ws H).get γ=(z6 ws H').get γ
 |[],_,_,_,h=>by simp at h
 |(i,b)::r,H,H',γ,h=>by simp only[z6];by_cases hr:γ∈r.map (·.1);exact aR r _ _ γ hr;(have hi:γ=i:=by simp only[s?,U?]at h;exact h.resolve_right hr);have jx: ∀x∈r,x.1≠γ:=fun x hx e=>hr (by rw[<- e];exact N?.2 ⟨x,hx,rfl⟩);rw[jM r _ γ jx,jM r _ γ jx,p!,p!,if_pos hi,if_pos hi]
theorem V3(rd:List Nat): ∀(ws:List (Nat×qD))(H H' :qp),xA rd H H' -> ∀γ,(z6 (trim rd H ws) H').get γ=(z6 ws H').get γ
 |[],_,_,_,_=>rfl
 |(β,b)::r,H,H',h,γ=>by rw[trim];split;(rename_i hc;simp only[zQ]at hc;have h1:=Ys hc.2;have h2:H'.get β=some b:=by rw[h β ((lO rd β).1 hc.1),h1]);rw[V3 rd r H H' h γ];simp only[z6];by_cases hr:γ∈r.map (·.1);exact aR r _ _ γ hr;have jx: ∀x∈r,x.1≠γ:=fun x hx e=>hr (by rw[<- e];exact N?.2 ⟨x,hx,rfl⟩);rw[jM r _ γ jx,jM r _ γ jx,p!];split;rename_i e;rw[e,h2];rfl;simp only[z6];refine V3 rd r (H.put β b) (H'.put β b) (fun x hx=>?_) γ;rw[p!,p!,h x hx]
theorem RL{tm:Bool}{rd:List Nat}{ws:List (Nat×qD)}{H H' :qp}(h:xA rd H H')(γ:Nat):(z6 (eH tm rd H ws) H').get γ=(z6 ws H').get γ:=by cases tm;rfl;exact V3 rd ws H H' h γ
theorem RM{tm:Bool}{rd:List Nat}{ws:List (Nat×qD)}{H:qp}{x:Nat×qD}(h:x∈eH tm rd H ws):x∈ws:=by cases tm;exact h;exact V4 rd ws H x h
theorem RK{tm:Bool}{rd:List Nat}{ws:List (Nat×qD)}{H:qp}{γ:Nat}(h:γ∈ws.map (·.1)):γ∈(eH tm rd H ws).map (·.1)\/ ∃b,H.get γ=some b:=by cases tm;exact .inl h;exact V2 rd ws H γ h
def nJ(G:GP)(O:xi)(all:List Oper)(tm:Bool):List Oper->List Rc->St->St->Prop
 |[],[],s,s' =>s' =s
 |o::r,c::cs,s,s' =>c.E=s.env/\c.H=s.heap/\c.nx=s.nx/\yB all o s.env=some c.on/\
   (c.on=true->(∃ wf,mB G O o.op s.env s.heap s.nx=some (c.v,wf,c.fg)/\c.ws=eH tm c.rd s.heap wf)/\c.rd=tg o.op s.env s.heap)/\
   (c.on=false->c.v= .xR []/\c.ws=[]/\c.fg=s.nx/\c.rd=[])/\nJ G O all tm r cs ⟨fj o.dst c.v s.env,z6 c.ws s.heap,c.fg⟩ s'
 |_,_,_,_=>False
def Yu:Nat->List Rc->List (Nat×List Nat×List Nat)->List (Nat×List Nat×List Nat)
 |_,[],log=>log
 |i,c::cs,log=>Yu (i+1) cs (if c.on=true then(i,c.rd,c.keys)::log else log)
theorem lr{G:GP}{O:xi}(all:List Oper){tm:Bool}: ∀{l:List Oper}{i:Nat}{s s' :St}{log:List (Nat×List Nat×List Nat)},dV G O all tm i l s log=some s' ->
  ∃cs,nJ G O all tm l cs s s' /\mG (wG [] all) (Yu i cs log)=true
 |[],i,s,s',log,h=>by simp only[dV]at h;split at h<;>cases h;rename_i hc;exact⟨[],rfl,hc⟩
 |o::r,i,s,s',log,h=>by simp only[dV]at h;split at h;rename_i hg;split at h;rename_i v ws nx ZQ;obtain⟨cs,h1,h2⟩:=lr all h;exact⟨⟨s.env,s.heap,s.nx,true,v,eH tm (tg o.op s.env s.heap) s.heap ws,nx,tg o.op s.env s.heap⟩::cs,⟨rfl,rfl,rfl,hg,fun _=>⟨⟨ws,ZQ,rfl⟩,rfl⟩,(fun h=>by cases h),h1⟩,h2⟩;cases h;rename_i hg;obtain⟨cs,h1,h2⟩:=lr all h;exact⟨⟨s.env,s.heap,s.nx,false,.xR [],[],s.nx,[]⟩::cs,⟨rfl,rfl,rfl,hg,(fun h=>by cases h),fun _=>⟨rfl,rfl,rfl,rfl⟩,h1⟩,h2⟩;cases h
theorem nJ.len{G:GP}{O:xi}{all:List Oper}{tm:Bool}: ∀{l:List Oper}{cs:List Rc}{s s' :St},nJ G O all tm l cs s s' ->cs.length=l.length
 |[],[],_,_,_=>rfl
 |[],_::_,_,_,h=>h.elim
 |_::_,[],_,_,h=>h.elim
 |_::r,_::cs,_,_,h=>by simp[nJ.len h.2.2.2.2.2.2]
theorem ZG: ∀{l L:List Nat},JJ l L=true-> ∀x∈l,x∉L
 |[],L,_,x,hx=>by simp at hx
 |y::r,L,h,x,hx=>by simp only[JJ,zQ,w_]at h;rcases U?.1 hx with rfl|hx;intro hc;rw[(lO L x).2 hc]at h;simp at h;exact ZG h.2 x hx
def Iq(a b:Rc):Prop:=(∀ x∈a.keys,x∉b.rd)/\(∀ x∈a.keys,x∉b.keys)/\ ∀x∈a.rd,x∉b.keys
theorem QF{ms:List Nat}{j:Nat}{rd wr:List Nat}: ∀{l:List (Nat×List Nat×List Nat)},Qd ms j rd wr l=true-> ∀e∈l,ordered ms e.1 j=true\/(JJ e.2.2 rd=true/\JJ e.2.2 wr=true/\JJ e.2.1 wr=true)
 |[],_,e,he=>by simp at he
 |(i,rdi,wri)::r,h,e,he=>by simp only[Qd,zQ,g!]at h;rcases U?.1 he with rfl|he;rcases h.1 with h1|⟨⟨h1,h2⟩,h3⟩;exact .inl h1;exact .inr ⟨h1,h2,h3⟩;exact QF h.2 e he
theorem Yv{ms:List Nat}: ∀(cs:List Rc)(i:Nat)(log:List (Nat×List Nat×List Nat)),mG ms (Yu i cs log)=true->
  mG ms log=true/\ ∀(b:Nat)(cb:Rc),cs[b]? =some cb->cb.on=true->
   (∀ e∈log,ordered ms e.1 (i+b)=true\/(JJ e.2.2 cb.rd=true/\JJ e.2.2 cb.keys=true/\JJ e.2.1 cb.keys=true))/\
   ∀(a:Nat)(ca:Rc),a<b->cs[a]? =some ca->ca.on=true->ordered ms (i+a) (i+b)=true\/Iq ca cb
 |[],i,log,h=>⟨h,z?⟩
 |c::cs,i,log,h=>by (simp only[Yu]at h;obtain⟨h1,h2⟩:=Yv cs (i+1) _ h;have hlog:mG ms log=true:=by split at h1;simp only[mG,zQ]at h1;exact h1.2;exact h1);refine⟨hlog,fun b cb hb Ff=>?_⟩;cases b with|zero=>simp only[a?,kG]at hb;subst hb;rw[if_pos Ff]at h1;simp only[mG,zQ]at h1;exact⟨fun e he=>QF h1.1 e he,fun a ca ha=>o?⟩|succ b=>simp only[l?]at hb;obtain⟨k1,k2⟩:=h2 b cb hb Ff;rw[show i+1+b=i+(b+1)from o?]at k1 k2;refine⟨fun e he=>k1 e (by split<;>simp[he]),fun a ca ha hca hcon=>?_⟩;cases a with|zero=>simp only[a?,kG]at hca;subst hca;rcases k1 (i,c.rd,c.keys) (by rw[if_pos hcon];simp)with h|⟨q1,q2,q3⟩;exact .inl h;exact .inr ⟨ZG q1,ZG q2,ZG q3⟩|succ a=>simp only[l?]at hca;have:=k2 a ca o? hca hcon;rwa[show i+1+a=i+(a+1)from o?]at this
theorem Ts{ms:List Nat}{o:Oper}{i:Nat}(h:(Hd ms o).testBit i=true): ∃e∈o.after,Region.binds .any e=true/\(i=e.on\/(ms.getD e.on 0).testBit i=true):=by
 have key: ∀(l:List Edge)(m:Nat),(l.foldl (fun m e=>if Region.binds .any e=true then m ||| (1 <<< e.on) ||| ms.getD e.on 0 else m) m).testBit i=true->
   m.testBit i=true\/ ∃e∈l,Region.binds .any e=true/\(i=e.on\/(ms.getD e.on 0).testBit i=true):=by
  intro l;induction l with
  |nil=>intro m h;exact .inl h
  |cons e l ih=>
   intro m h;simp only[List.foldl_cons]at h;rcases ih _ h with h|⟨e',h1,h2,h3⟩
   ·split at h
    ·rename_i hb;rw[q1c,q1c,Nat.one_shiftLeft,Nat.testBit_two_pow]at h;simp only[g!,decide_eq_true_eq]at h;rcases h with (h|h)|h
     ·exact .inl h
     ·exact .inr ⟨e,z?,hb,.inl h.symm⟩
     exact .inr ⟨e,z?,hb,.inr h⟩
    exact .inl h
   exact .inr ⟨e',by simp[h1],h2,h3⟩
 rcases key o.after.toList 0 h with h|⟨e,h1,h2⟩;simp at h;exact⟨e,by simpa using h1,h2⟩
theorem eA: ∀(os:List Oper)(ms:List Nat)(k:Nat),k<ms.length->(wG ms os).getD k 0=ms.getD k 0
 |[],ms,k,_=>rfl
 |o::r,ms,k,h=>by simp only[wG];rw[eA r _ k v?];simp[p? h]
theorem ZY: ∀(os:List Oper)(ms:List Nat)(j:Nat)(o:Oper),os[j]? =some o-> ∃ms' :List Nat,ms'.length=ms.length+j/\(wG ms os).getD (ms.length+j) 0=Hd ms' o/\
  ∀k,k<ms.length+j->ms'.getD k 0=(wG ms os).getD k 0
 |[],ms,j,o,h=>by simp at h
 |o' ::r,ms,j,o,h=>by simp only[wG];cases j with|zero=>simp only[a?,kG]at h;subst h;refine⟨ms,z?, ?_,fun k hk=>?_⟩;rw[eA r _ _ z?];simp;rw[eA r _ k v?];simp at hk;simp[p? hk]|succ j=>simp only[l?]at h;obtain⟨ms',h1,h2,h3⟩:=ZY r (ms++[Hd ms o']) j o h;simp only[List.length_append,List.length_singleton]at h1 h2 h3;rw[show ms.length+1+j=ms.length+(j+1)from o?]at h1 h2 h3;exact⟨ms',h1,h2,h3⟩
def OI(os:List Oper):Bool:=os.zipIdx.all fun x=>x.1.after.toList.all fun e=> !Region.binds .any e || decide (e.on<x.2)
def S6(os:List Oper)(ms:List Nat):Bool:=(E? os.length).all fun j=>(E? j).all fun i=>ordered ms i j || match os[i]?,os[j]? with
 |some x,some y=>x.apart os.toArray y
 |_,_=>true
def XD(os:List Oper):Bool:=OI os&&S6 os (wG [] os)
theorem BK{os:List Oper}(h:OI os=true){j:Nat}{o:Oper}(ho:os[j]? =some o){e:Edge}(he:e∈o.after)(hb:Region.binds .any e=true):e.on<j:=by have h1:=Z!.1 h (o,j) (by rw[List.mem_zipIdx_iff_getElem?];exact ho);have h2:=Z!.1 h1 e (by simpa using he);simpa[hb]using h2
theorem apart_spec{os:List Oper}{ms:List Nat}(h:S6 os ms=true){i j:Nat}{x y:Oper}(Ef:i<j)(hx:os[i]? =some x)(hy:os[j]? =some y):ordered ms i j=true\/x.apart os.toArray y=true:=by have hj:j<os.length:=(qF hy).1;have h1:=Z!.1 (Z!.1 h j (by simpa using hj)) i (by simpa using Ef);simpa[hx,hy]using h1
def P4(os:List Oper)(D:Nat->Bool):Prop:= ∀j o,os[j]? =some o->D j=true-> ∀e∈o.after,Region.binds .any e=true->D e.on=true
theorem ly{os:List Oper}(hf:OI os=true){D:Nat->Bool}(hD:P4 os D): ∀(j:Nat)(o:Oper),os[j]? =some o->
  (∀ e∈o.after,Region.binds .any e=true->D e.on=true)-> ∀i,ordered (wG [] os) i j=true->D i=true:=by intro j;induction j using r? with|_ j ih=>intro o ho VD i hi;obtain⟨ms',h1,h2,h3⟩:=ZY os [] j o ho;simp only[List.length_nil,A?]at h1 h2 h3;unfold ordered at hi;rw[h2]at hi;obtain⟨e,e1,e2,e3⟩:=Ts hi;have xQ:=BK hf ho e1 e2;have hDe:=VD e e1 e2;rcases e3 with rfl|e3;exact hDe;rw[h3 _ xQ]at e3;have MG:e.on<os.length:=Nat.lt_trans xQ (qF ho).1;exact ih e.on xQ os[e.on] (wx MG) (fun e' Vz jo=>hD e.on _ (wx MG) hDe e' Vz jo) i e3
def tM:List Oper->List Rc->Nat->(Nat->Bool)->yo->yo
 |o::os,c::cs,i,D,E=>tM os cs (i+1) D (if D i=true then fj o.dst c.v E else E)
 |_,_,_,_,E=>E
def wy:List Rc->Nat->(Nat->Bool)->qp->qp
 |c::cs,i,D,H=>wy cs (i+1) D (if D i=true then z6 c.ws H else H)
 |[],_,_,H=>H
theorem cy{t:Nat}{D D' :Nat->Bool}: ∀(os:List Oper)(cs:List Rc)(i:Nat)(E E' :yo),(∀ k o,os[k]? =some o->o.dst=some t->D (i+k)=D' (i+k))->E.get t=E'.get t->
  (tM os cs i D E).get t=(tM os cs i D' E').get t
 |[],_,_,_,_,_,h=>by simpa[tM]using h
 |_::_,[],_,_,_,_,h=>by simpa[tM]using h
 |o::os,c::cs,i,E,E',hD,h=>by simp only[tM];refine cy os cs (i+1) _ _ (fun k o' ho' hd' =>?_) ?_;have:=hD (k+1) o' (by simpa using ho') hd';rwa[show i+1+k=i+(k+1)from o?];by_cases hd:o.dst=some t;have:=hD 0 o rfl hd;simp only[D?]at this;rw[this];split;rw[fm,fm,if_pos hd,if_pos hd];exact h;(have e1:(if D i=true then fj o.dst c.v E else E).get t=E.get t:=by split;rw[fm,if_neg hd];rfl);(have e2:(if D' i=true then fj o.dst c.v E' else E').get t=E'.get t:=by split;rw[fm,if_neg hd];rfl);rw[e1,e2,h]
theorem og: ∀(os:List Oper)(cs:List Rc)(i:Nat)(D:Nat->Bool)(E:yo),(∀ k,i<=k->D k=false)->tM os cs i D E=E
 |[],_,_,_,_,_=>rfl
 |_::_,[],_,_,_,_=>rfl
 |o::os,c::cs,i,D,E,h=>by simp only[tM,h i (jv _),wA,if_false];exact og os cs (i+1) D E fun k hk=>h k o?
theorem mH: ∀(cs:List Rc)(i:Nat)(D:Nat->Bool)(H:qp),(∀ k,i<=k->D k=false)->wy cs i D H=H
 |[],_,_,_,_=>rfl
 |c::cs,i,D,H,h=>by simp only[wy,h i (jv _),wA,if_false];exact mH cs (i+1) D H fun k hk=>h k o?
theorem KP{t:Nat}{D:Nat->Bool}: ∀(os:List Oper)(cs:List Rc)(i:Nat)(E:yo)(j:Nat)(o:Oper)(c:Rc),os[j]? =some o->cs[j]? =some c->o.dst=some t->D (i+j)=true->
  (∀ k o',j<k->os[k]? =some o' ->o'.dst=some t->D (i+k)=false)->(tM os cs i D E).get t=c.v
 |[],_,_,_,j,o,c,ho,_,_,_,_=>by simp at ho
 |_::_,[],_,_,j,o,c,_,hc,_,_,_=>by simp at hc
 |o' ::os,c' ::cs,i,E,j,o,c,ho,hc,hd,hD,hl=>by simp only[tM];cases j with|zero=>simp only[a?,kG]at ho hc;subst ho hc;simp only[D?]at hD;rw[hD];simp only[if_true];rw[cy (D' :=fun _=>false) os cs (i+1) _ (fj o'.dst c'.v E) (fun k o2 h2 ME=>?_) rfl,og _ _ _ _ _ (fun _ _=>rfl),fm,if_pos hd];have:=hl (k+1) o2 o? (by simpa using h2) ME;rwa[show i+1+k=i+(k+1)from o?]|succ j=>simp only[l?]at ho hc;refine KP os cs (i+1) _ j o c ho hc hd (by rwa[show i+1+j=i+(j+1)from o?]) fun k o2 hk h2 ME=>?_;have:=hl (k+1) o2 o? (by simpa using h2) ME;rwa[show i+1+k=i+(k+1)from o?]
theorem Hx(ws:List (Nat×qD)){H H' :qp}{γ:Nat}(h:H.get γ=H'.get γ):(z6 ws H).get γ=(z6 ws H').get γ:=by by_cases hr:γ∈ws.map (·.1);exact aR ws H H' γ hr;have jx: ∀x∈ws,x.1≠γ:=fun x hx e=>hr (by rw[<- e];exact N?.2 ⟨x,hx,rfl⟩);rw[jM ws _ γ jx,jM ws _ γ jx,h]
theorem pq{γ:Nat}{D D' :Nat->Bool}: ∀(cs:List Rc)(i:Nat)(H H' :qp),(∀ k c,cs[k]? =some c->γ∈c.keys->D (i+k)=D' (i+k))->H.get γ=H'.get γ->
  (wy cs i D H).get γ=(wy cs i D' H').get γ
 |[],_,_,_,_,h=>by simpa[wy]using h
 |c::cs,i,H,H',hD,h=>by simp only[wy];refine pq cs (i+1) _ _ (fun k c' Gh Xm=>?_) ?_;have:=hD (k+1) c' (by simpa using Gh) Xm;rwa[show i+1+k=i+(k+1)from o?];by_cases hd:γ∈c.keys;have:=hD 0 c rfl hd;simp only[D?]at this;rw[this];split;exact Hx _ h;exact h;(have jx: ∀x∈c.ws,x.1≠γ:=fun x hx e=>hd (by rw[<- e];exact N?.2 ⟨x,hx,rfl⟩);have e1:(if D i=true then z6 c.ws H else H).get γ=H.get γ:=by split;exact jM _ _ _ jx;rfl);(have e2:(if D' i=true then z6 c.ws H' else H').get γ=H'.get γ:=by split;exact jM _ _ _ jx;rfl);rw[e1,e2,h]
theorem Jg{γ:Nat}{D:Nat->Bool}: ∀(cs:List Rc)(i:Nat)(H:qp)(j:Nat)(c:Rc),cs[j]? =some c->γ∈c.keys->D (i+j)=true->
  (∀ k c',j<k->cs[k]? =some c' ->γ∈c'.keys->D (i+k)=false)-> ∀H',(wy cs i D H).get γ=(z6 c.ws H').get γ
 |[],_,_,j,c,hc,_,_,_,_=>by simp at hc
 |c' ::cs,i,H,j,c,hc,hd,hD,hl,H' =>by simp only[wy];cases j with|zero=>simp only[a?,kG]at hc;subst hc;simp only[D?]at hD;rw[hD];simp only[if_true];rw[pq (D' :=fun _=>false) cs (i+1) _ (z6 c'.ws H) (fun k c2 h2 ME=>?_) rfl,mH _ _ _ _ (fun _ _=>rfl)];exact aR _ _ _ _ hd;have:=hl (k+1) c2 o? (by simpa using h2) ME;rwa[show i+1+k=i+(k+1)from o?]|succ j=>simp only[l?]at hc;refine Jg cs (i+1) _ j c hc hd (by rwa[show i+1+j=i+(j+1)from o?]) (fun k c2 hk h2 ME=>?_) H';have:=hl (k+1) c2 o? (by simpa using h2) ME;rwa[show i+1+k=i+(k+1)from o?]
def yz(H:qp)(nx:Nat)(e:mA):Prop:=
 (∀ β b,H.get β=some b->β<nx)->nx<=e.2.2/\(∀ x∈e.2.1,x.1<e.2.2)/\ ∀γ,nx<=γ->γ<e.2.2->γ∈e.2.1.map (·.1)
section
variable {H:qp} {nx:Nat}
theorem keys_nil(v:AV):yz H nx (v,[],nx):=fun _=>⟨jv _,z?,fun γ h1 h2=>by simp at h2;omega⟩
theorem cz(v:AV)(b:qD):yz H nx (v,[(nx,b)],nx+1):=fun _=>⟨Nat.le_succ _,z?,fun γ h1 h2=>by simp at h2 |-; omega⟩
theorem lL(v:AV){β:Nat}{b b' :qD}(h:H.get β=some b):yz H nx (v,[(β,b')],nx):=fun hn=>⟨jv _,by simpa using hn β b h,fun γ h1 h2=>by simp at h2;omega⟩
theorem cA{v:Option AV}{e:mA}(h:bC v nx=some e):yz H nx e:=by unfold bC at h;split at h<;>cases h;exact keys_nil _
theorem SJ{v:Option PV}{e:mA}(h:Jr v nx=some e):yz H nx e:=by unfold Jr at h;split at h<;>cases h;exact keys_nil _
def QB(H:qp)(ws:List (Nat×qD)):Prop:=ws=[]\/ ∃β b b',H.get β=some b/\ws=[(β,b')]
theorem H8{ws:List (Nat×qD)}(v:AV)(h:QB H ws):yz H nx (v,ws,nx):=by rcases h with rfl|⟨β,b,b',hb,rfl⟩;exact keys_nil _;exact lL _ hb
theorem eV{ws:Option (List (Nat×qD))}{e:mA}(h:mw ws nx=some e)(hw: ∀l,ws=some l->QB H l):yz H nx e:=by unfold mw at h;split at h<;>cases h;exact H8 _ (hw _ rfl)
theorem WY{sz β xc i o size:Nat}{vs:List AV}{es:List (List AV)}{l:List (Nat×qD)}{b:qD}(hb:H.get β=some b)(h:Zm sz β xc i o size vs es=some l):QB H l:=by unfold Zm at h;cases h
theorem RF{β xc i o size:Nat}{v:AV}{ds:List Nat}{es:List PV}{l7:Option (Nat×Nat×Nat)}{l:List (Nat×qD)}{b:qD}(hb:H.get β=some b)(h:XY β xc i o size v ds es l7=some l):QB H l:=by unfold XY at h;split at h;split at h<;>cases h;exact .inr ⟨_,_,_,hb,rfl⟩;cases h
theorem Pn{ti:TI}{a v:AV}{l:List (Nat×qD)}(h:o6 ti a v H=some l):QB H l:=by unfold o6 at h;split at h;rotate_left;cases h;split at h;split at h;rename_i hb;split at h<;>cases h;exact .inr ⟨_,_,_,hb,rfl⟩;cases h;split at h;split at h;rename_i hb;split at h;split at h;split at h<;>cases h;exact .inr ⟨_,_,_,hb,rfl⟩;cases h;cases h;rename_i hb;exact WY hb h;cases h;split at h;rename_i hb;exact WY hb h;rename_i hb;exact RF hb h;cases h;cases h
theorem Uy{tk:TI}{m k v:AV}{l:List (Nat×qD)}(h:dU tk m k v H=some l):QB H l:=by unfold dU at h;cases h
theorem Vt{G:GP}{t:TypeId}{m k x:AV}{e:mA}(h:ln G t m k x H nx=some e):yz H nx e:=by unfold ln at h;split at h;split at h;exact eV h fun l hl=>Uy hl;cases h;cases h
theorem Ks{G:GP}{t:TypeId}{x:AV}{e:mA}(h:tH G t x H nx=some e):yz H nx e:=by unfold tH at h;cases h
theorem J3{tk:TI}{m k:AV}{v:PV}{l:List (Nat×qD)}(h:rz tk m k v H=some l):QB H l:=by unfold rz at h;split at h;split at h;split at h;rename_i hb;split at h<;>cases h<;>exact .inr ⟨_,_,_,hb,rfl⟩;cases h;cases h;cases h
theorem Pj{tk te:TI}{m k:AV}{v:AV}{l:List (Nat×qD)}(h:lk tk te m k H=some (v,l)):QB H l:=by unfold lk at h;cases h
theorem JD{m st:AV}{v:PV}{l:List (Nat×qD)}(h:bD m st v H=some l):QB H l:=by unfold bD at h;cases h
theorem B1{tk:TI}{m k:AV}{l:List (Nat×qD)}(h:sV tk m k H=some l):QB H l:=by unfold sV at h;split at h;split at h<;>cases h;exact .inl rfl;split at h;split at h;rename_i hb;split at h<;>cases h<;>exact .inr ⟨_,_,_,hb,rfl⟩;cases h;cases h;cases h
theorem ZL{te:TI}{s:AV}{src:List (List PV)}{e:mA}(h:jV te s src nx nx (nx+1)=some e):yz H nx e:=by unfold jV at h;split at h;cases h;exact keys_nil _;split at h<;>cases h;exact cz _ _
theorem US{te:TI}{s:AV}{src:List (List PV)}{β:Nat}{b:qD}{e:mA}(hb:H.get β=some b)(h:jV te s src β nx nx=some e):yz H nx e:=by unfold jV at h;split at h;cases h;exact keys_nil _;split at h<;>cases h;exact lL _ hb
theorem Vg{te:TI}{s x:AV}{e:mA}(h:mE te s x H nx=some e):yz H nx e:=by unfold mE at h;cases h
theorem Ut{te:TI}{s x:AV}{e:mA}(h:uU te s x H nx=some e):yz H nx e:=by unfold uU at h;split at h;exact Vg h;split at h;rotate_left;cases h;split at h;exact ZL h;exact ZL h;split at h;rename_i hb;split at h;exact US hb h;cases h;rename_i hb;split at h;split at h<;>cases h<;>exact lL _ hb;cases h;cases h;cases h
theorem Pg{te:TI}{s x:AV}{e:mA}(h:ZB te s x H nx=some e):yz H nx e:=by unfold ZB at h;split at h;cases h;split at h;split at h;rename_i hb;split at h<;>cases h;exact lL _ hb;cases h;cases h
theorem Vl{src dst:TD}{dte:TypeId->Option TI}{x:AV}{e:mA}(h:ry src dst dte x H nx=some e):yz H nx e:=by unfold ry at h;split at h;cases h;exact keys_nil _;cases h;exact keys_nil _;split at h;split at h;split at h;split at h;split at h<;>cases h;exact keys_nil _;cases h;cases h;cases h;cases h;split at h;split at h;cases h;exact cz _ _;cases h;cases h;cases h
theorem Vi{e0:TypeId}{te:TI}{s x:AV}{e:mA}(h:gZ e0 te s x H nx=some e):yz H nx e:=by unfold gZ at h;cases h
theorem Vh{te:TI}{s x:AV}{e:mA}(h:nK te s x H nx=some e):yz H nx e:=by unfold nK at h;split at h;rotate_left;cases h;split at h;rotate_left;cases h;split at h;rotate_left;cases h;rename_i hb;split at h<;>cases h;exact lL _ hb
theorem Nw{e0:TypeId}{te:TI}{s x:AV}{e:mA}(h:orT (uU te s x H nx) (orT (gZ e0 te s x H nx) (nK te s x H nx))=some e):yz H nx e:=by cases ha:uU te s x H nx with|some r=>rw[ha]at h;cases h;exact Ut ha|none=>rw[ha]at h;cases hb:gZ e0 te s x H nx with|some r=>rw[hb]at h;cases h;exact Vi hb|none=>rw[hb]at h;exact Vh h
theorem JE{x:AV}{e:mA}(h:tu x H nx=some e):yz H nx e:=by unfold tu at h;cases h
theorem QU{el:TypeId}{p x:AV}{e:mA}(h:gv el p x H nx=some e):yz H nx e:=by unfold gv at h;cases h
theorem Us{G:GP}{t:TypeId}{ti:TI}{e:mA}(h:ZA G t ti nx=some e):yz H nx e:=by unfold ZA at h;cases h
theorem Vk{G:GP}{b:Builtin}{ch:List TypeId}{args:List AV}{e:mA}(h:ru G b ch args H nx=some e):yz H nx e:=by unfold ru at h;split at h;split at h;split at h;split at h<;>cases h;exact keys_nil _;cases h;cases h;exact JE h;{split at h;rotate_left;cases h;split at h;rotate_left;cases h;split at h;rotate_left;cases h;split at h;rotate_left;cases h;exact QU h};split at h<;>cases h;exact keys_nil _;split at h<;>cases h;exact keys_nil _;split at h;split at h;split at h;exact Nw h;cases h;split at h;exact Nw h;cases h;cases h;cases h;split at h;split at h;split at h;exact Pg h;cases h;cases h;cases h;split at h;split at h;split at h;split at h<;>cases h;rename_i hd;exact H8 _ (B1 hd);cases h;cases h;cases h;cases h
theorem Js(g:Nat->Nat): ∀(H:qp)(i j:Nat),uM i H=true->i<=j->j<i+H.length->g j∈(vV g H).map (·.1)
 |[],i,j,_,h1,h2=>by simp at h2;omega
 |(k,b)::r,i,j,hk,h1,h2=>by simp only[uM,zQ,decide_eq_true_eq]at hk;obtain⟨rfl,hk⟩:=hk;simp only[vV,s?,U?];by_cases h:j=k;exact .inl (by rw[h]);exact .inr (Js g r (k+1) j hk o? (by simp only[g?]at h2;omega))
theorem KG{O:xi}{f:FuncId}{args:List AV}{e:mA}(h:eM O f args H nx=some e):yz H nx e:=by
 unfold eM at h;split at h;cases h;rename_i L H0 Z6;split at h;cases h;rename_i v H' dj;split at h<;>cases h;rename_i hk;intro hn;obtain⟨hs,_,_⟩:=oH List.nodup_nil Z6;refine⟨Nat.le_add_right _ _,fun x hx=>?_,fun γ h1 h2=>?_⟩;obtain⟨j,_,q2,q3⟩:=dA _ H' 0 hk x hx;rw[q3];by_cases hj:j<L.length;(have a1:L[j]? =some L[j]:=by simp[hj]);(obtain⟨b1,UW,_⟩:=hs.has _ (z7 a1);have:=hn _ b1 UW;have e1:j9 L nx j=L[j]:=by simp[j9,a1]);simp only[e1];omega;(have e1:j9 L nx j=nx+(j-L.length):=by simp[j9,t_ (by omega:L.length<=j)]);simp only[e1];omega;simp only at h2;have:=Js (j9 L nx) H' 0 (L.length+(γ-nx)) hk (B! _) o?;have e1:j9 L nx (L.length+(γ-nx))=γ:=by simp[j9,t_ (by omega:L.length<=L.length+(γ-nx))];omega
 rwa[e1]at this
theorem IZ{G:GP}{O:xi}{o:Op}{E:yo}{e:mA}(h:mB G O o E H nx=some e):yz H nx e:=by cases o with|move x=>cases h;exact keys_nil _|assign x=>cases h;exact keys_nil _|pick c a b=>simp only[mB]at h;split at h<;>cases h;exact keys_nil _|alloc t=>simp only[mB]at h;split at h;rotate_left;cases h;split at h;exact Us h;cases h;exact cz _ _|box t x=>simp only[mB]at h;split at h;unfold aBox at h;split at h;split at h<;>cases h;exact keys_nil _;cases h;exact cz _ _;cases h|build t ps=>simp only[mB]at h;split at h;exact cA h;cases h|buildSlice t n ps=>simp only[mB]at h;split at h;split at h;split at h;split at h;split at h;split at h<;>cases h;exact cz _ _;split at h<;>cases h;exact cz _ _;cases h;cases h;cases h;cases h|load t a=>simp only[mB]at h;split at h;exact cA h;cases h|store t a x=>simp only[mB]at h;split at h;exact eV h fun l hl=>Pn hl;cases h|nilCheck x=>simp only[mB]at h;split at h<;>cases h<;>exact keys_nil _|binOp op t x y z=>simp only[mB]at h;split at h;exact SJ h;cases h|unOp op t x=>exact SJ h|convert s d x=>simp only[mB]at h;split at h;exact Ks h;split at h;exact Vl h;cases h|makeFunc fn a b=>(cases fn with|func f=>cases h;exact keys_nil _|_=>cases h)|makeMap t r=>(cases r with|none=>simp only[mB]at h;cases h;exact cz _ _|some _=>cases h)|makeSlice t l c=>simp only[mB]at h;split at h;unfold sr at h;split at h;split at h;split at h<;>cases h;exact cz _ _;cases h;cases h;cases h|slice t x lo hi mx=>simp only[mB]at h;split at h;exact cA h;cases h|fieldAddr t x f=>simp only[mB]at h;split at h;exact cA h;cases h|field t x f=>simp only[mB]at h;split at h;split at h;split at h;split at h;exact cA h;cases h;cases h;cases h;cases h|indexAddr t x i=>simp only[mB]at h;split at h;exact cA h;cases h|index t x i=>simp only[mB]at h;split at h;split at h;split at h<;>cases h;exact keys_nil _;split at h;split at h;exact cA h;cases h;cases h;cases h;cases h|lookup t m k ok=>simp only[mB]at h;split at h;exact cA h;cases h|mapUpdate t m k x=>simp only[mB]at h;split at h;exact Vt h;split at h;split at h;exact eV h fun l hl=>J3 hl;cases h;cases h|insert t m k x=>simp only[mB]at h;split at h;split at h;exact eV h fun l hl=>J3 hl;cases h;cases h|mapEntry t m k=>simp only[mB]at h;split at h;split at h<;>cases h;rename_i he;exact H8 _ (Pj he);cases h|entryStore t m st x=>simp only[mB]at h;split at h;exact eV h fun l hl=>JD hl;cases h|extract t i=>simp only[mB]at h;split at h;split at h<;>cases h;exact keys_nil _;cases h|call c=>(obtain⟨callee,args,ch⟩:=c;cases callee with|builtin b=>exact Vk h|value f=>simp only[mB]at h;split at h;exact KG h;exact KG h;cases h|_=>cases h)|_=>cases h
end
def Ex.BD:Ex->Exit
 | .normal=> .normal
 | .ret=> .ret
 | .exit id=> .exit id
structure lj (k:Nat) (w:World) (H:qp) (ι:yp) (Im:Nat->Prop) (w' :World) (H' :qp) (ι' :yp) (jT:Nat->Prop):Prop where
 comp: ∀β b,β<k->H.get β=some b-> ∃b',H'.get β=some b' /\xN b b' (ι β) (ι' β)
 im: ∀b,Im b->jT b
 pU: ∀b,jT b->Im b\/w.heap.size<=b\/ ∃β x,H.get β=some x/\x.yb (ι β) b
 nQ: ∀β x z,H'.get β=some x->x.yb (ι' β) z->w.heap.size<=z\/ ∃β0 x0,H.get β0=some x0/\x0.yb (ι β0) z
 kF: ∀b,b<w.heap.size->(∀ β x,H.get β=some x-> ¬x.yb (ι β) b)->w'.heap[b]? =w.heap[b]?
 size:w.heap.size<=w'.heap.size
 io:w'.os=w.os/\w'.output=w.output
theorem wU.toK{w w' :World}{H H' :qp}{ι ι' :yp}{Im jT:Nat->Prop}(h:wU w H ι Im w' H' ι' jT)(k:Nat):lj k w H ι Im w' H' ι' jT:=
 ⟨fun β b _ hb=>h.comp β b hb,h.im,h.pU,h.nQ,h.kF,h.size,h.io⟩
theorem lj.full{k:Nat}{w w' :World}{H H' :qp}{ι ι' :yp}{Im jT:Nat->Prop}(h:lj k w H ι Im w' H' ι' jT)(hk: ∀β b,H.get β=some b->β<k):wU w H ι Im w' H' ι' jT:=
 ⟨fun β b hb=>h.comp β b (hk β b hb) hb,h.im,h.pU,h.nQ,h.kF,h.size,h.io⟩
theorem lj.trans{k:Nat}{w w1 w2:World}{H H1 H2:qp}{ι ι1 ι2:yp}{Im iX Gd:Nat->Prop}
  (h1:lj k w H ι Im w1 H1 ι1 iX) (h2:lj k w1 H1 ι1 iX w2 H2 ι2 Gd):lj k w H ι Im w2 H2 ι2 Gd where
 comp:=fun β b hk h=>by obtain⟨b1,g1,c1⟩:=h1.comp β b hk h;obtain⟨b2,g2,c2⟩:=h2.comp β b1 hk g1;exact⟨b2,g2,ZF c1 c2⟩
 im:=fun b h=>h2.im b (h1.im b h)
 pU:=fun b h=>by rcases h2.pU b h with h|h|⟨β,x,hx,hu⟩;exact h1.pU b h;exact .inr (.inl (n! h1.size h));rcases h1.nQ β x b hx hu with h|⟨β0,x0,g,Ld⟩;exact .inr (.inl h);exact .inr (.inr ⟨β0,x0,g,Ld⟩)
 nQ:=fun β x z h hu=>by rcases h2.nQ β x z h hu with h|⟨β0,x0,g,Ld⟩;exact .inl (n! h1.size h);exact h1.nQ β0 x0 z g Ld
 kF:=fun b hb hn=>by
  have e1:=h1.kF b hb hn;have e2:=h2.kF b (U! hb h1.size) (fun β x hx hu=>by
   rcases h1.nQ β x b hx hu with h|⟨β0,x0,g,Ld⟩
   ·omega
   exact hn β0 x0 g Ld)
  exact e2.trans e1
 size:=n! h1.size h2.size
 io:=⟨h2.io.1.trans h1.io.1,h2.io.2.trans h1.io.2⟩
def QT[xd](k:Nat)(w:World)(H:qp)(ι:yp)(Im:Nat->Prop)(nt:Nat)(s:St)(a:Act)(w' :World):Prop:=
 ∃ι' jT,Inv w' a s ι' jT nt/\lj k w H ι Im w' s.heap ι' jT
theorem QT.from[xd]{k:Nat}{w:World}{H:qp}{ι:yp}{Im:Nat->Prop}{w1:World}{H1:qp}{ι1:yp}{iX:Nat->Prop}{nt:Nat}{s:St}{a:Act}{w' :World}(h:QT k w1 H1 ι1 iX nt s a w')(he:lj k w H ι Im w1 H1 ι1 iX):
  QT k w H ι Im nt s a w' :=
 let⟨ι',jT,h1,h2⟩:=h
 ⟨ι',jT,h1,he.trans h2⟩
def Iv[xd](P:Program)(G:GP)(f:FuncId)(id:Nat)(s:St)(ex:Ex)(s' :St):Prop:=
 ∀fi c,G.fn f=some fi->zF fi.body id=some c->(∀ i,ex= .exit i->i≠id)/\ ∃n,∀(w:World)(ι:yp)(Im:Nat->Prop)(a:Act),Inv w a s ι Im fi.nt->
  Code.rounds P c (fun e a' w' =>e=(match ex with| .exit i=>Exit.exit i| .ret=> .ret| .normal=> .exit id)/\QT (s.nx-(G.spec f id).off) w s.heap ι Im fi.nt s' a' w') n a w
structure Sound [xd] (P:Program) (G:GP) (O:xi):Prop extends SoundCall P O where
 loop: ∀f id s ex s',O.loop f id s=some (ex,s')->Iv P G f id s ex s'
def opsOK(nt:Nat)(ops:List Oper):Bool:=ops.all fun o=>match o.dst with|some d=>decide (d<nt)|none=>true
theorem Wt{nt:Nat}{ops:List Oper}(h:opsOK nt ops=true):Y8 nt ops:=by intro o ho t ht;have:=Z!.1 h o ho;rw[ht]at this;simpa using this
section
variable [xd] {P:Program} {w:World} {H:qp} {ι:yp} {Im:Nat->Prop}
theorem Xb: ∀(E:yo)(l:List Nat)(t:Nat),(restrict E l).get t=if t∈l then E.get t else .undef
 |E,[],t=>by simp[restrict,V!]
 |E,x::r,t=>by simp only[restrict,V!,Xb E r t,U?];by_cases h:x=t;subst h;simp;simp[h,u_ h]
theorem oD{a:Act}{E:yo}(hE: ∀t,RA w H ι Im (E.get t) (a.tmps.getD t undef))(l:List Nat): ∀t,RA w H ι Im ((restrict E l).get t) (a.tmps.getD t undef):=by intro t;rw[Xb];split;exact hE t;exact .undef _
theorem dB{a:Act}{s:St}{nt:Nat}(h:Inv w a s ι Im nt)(l:List Nat):Inv w a { s with env:=restrict s.env l } ι Im nt:=
 ⟨h.heap,oD h.env l,h.nx,h.size,h.defers⟩
theorem bB(n:Nat): ∀(H:qp)(γ:Nat),(U' n H).get γ=if γ<n then H.get γ else none
 |[],γ=>by simp[U',A!]
 |(i,b)::r,γ=>by simp only[U'];split;rename_i h;simp only[A!,bB n r γ];by_cases e:i=γ;subst e;simp[h];simp[e];rename_i h;rw[bB n r γ];simp only[A!];by_cases e:i=γ;subst e;simp[h];simp[e]
theorem o9(n:Nat): ∀(l:List Nat),cq n l=true↔ ∀x∈l,x<n
 |[]=>by simp[cq]
 |x::r=>by simp[cq,o9 n r]
theorem iP{H' :qp}{x:AV}{v:Value}(hx:RA w H ι Im x v)(hg: ∀β∈x.refs,∀ b,H.get β=some b->H'.get β=some b):RA w H' ι Im x v:=by
 induction hx with
 |undef v=>exact .undef v
 |pv p v h=>exact .pv p v h
 |ptr β o c hb hk=>exact .ptr β o c (hg β (by simp[O?]) _ hb) hk
 |uJ β xc i o b1 o1 b hb jy h=>exact .uJ β xc i o b1 o1 b (hg β (by simp[O?]) _ hb) jy h
 |row β xc off n v b ho hb hk jy h=>exact .row β xc off n v b ho (hg β (by simp[O?]) _ hb) hk jy h
 |tE c o b off vs Qx hc hf h=>exact .tE c o b off vs Qx hc hf h
 |iW a=>exact .iW a
 |map β es zW hb=>exact .map β es zW (hg β (by simp[O?]) _ hb)
 |QX f a b va vb VB Su _ _ iha ihb=>
  exact .QX f a b va vb VB Su (fun i x v h1 h2=>iha i x v h1 h2 fun β hβ=>hg β (by simp only[O?,m?];exact .inl (vU h1 hβ)))
   (fun i x v h1 h2=>ihb i x v h1 h2 fun β hβ=>hg β (by simp only[O?,m?];exact .inr (vU h1 hβ)))
 |agg c vs hl hf _ ih=>exact .agg c vs hl hf fun i x v h1 h2=>ih i x v h1 h2 fun β hβ=>hg β (by simp only[O?];exact vU h1 hβ)
 |xR c vs hl _ ih=>exact .xR c vs hl fun i x v h1 h2=>ih i x v h1 h2 fun β hβ=>hg β (by simp only[O?];exact vU h1 hβ)
theorem Y4: ∀{E:yo}{n:Nat},yo.below n E=true-> ∀t,∀ β∈(E.get t).refs,β<n
 |[],n,_,t,β,h=>by simp[V!,O?]at h
 |(i,v)::r,n,hb,t,β,h=>by simp only[yo.below,zQ]at hb;simp only[V!]at h;split at h;exact(o9 n _).1 hb.1 β h;exact Y4 hb.2 t β h
theorem KD: ∀{H:qp}{n:Nat},q1l n H=true-> ∀{γ:Nat}{b:qD},H.get γ=some b-> ∀β∈b.refs,β<n
 |[],n,_,γ,b,h=>by simp[A!]at h
 |(i,c)::r,n,hb,γ,b,h=>by simp only[q1l,zQ]at hb;simp only[A!]at h;split at h;cases h;exact fun β hβ=>(o9 n _).1 hb.1 β hβ;exact KD hb.2 h
theorem upto_ok(hi:zd w H ι Im)(n:Nat)(hb:q1l n (U' n H)=true):zd w (U' n H) ι Im where
 BM:=hi.BM
 Vx:=hi.Vx
 rk:=fun γ b h=>by
  rw[bB]at h;split at h;rotate_left;cases h
  rename_i xQ;have h0:=hi.rk γ b h;have hrefs: ∀β∈b.refs,β<n:=KD hb (γ:=γ) (by rw[bB,if_pos xQ];exact h);cases b with
   |box c=>obtain⟨vs,elem,fz,q1,q2,q3,q4,q5⟩:=h0;refine⟨vs,elem,fz,q1,q2,q3,q4,fun i x v a b=>iP (q5 i x v a b) fun β hβ b' jo=>?_⟩;rw[bB,if_pos (hrefs β (by simp only[q0t];exact vU a hβ))];exact jo
   |row qt sz es=>cases qt<;>exact h0
   |map es zW=>exact h0
   |mz sz es=>
    obtain⟨vs,elem,fz,q1,q2,q3,q4,q5,q6,q7,q8⟩:=h0;refine⟨vs,elem,fz,q1,q2,q3,q4,q5,q6,q7,fun i e j x a b=>?_⟩;obtain⟨v,k1,k2⟩:=q8 i e j x a b;refine⟨v,k1,iP k2 fun β hβ b' jo=>?_⟩;rw[bB,if_pos (hrefs β (by
     simp only[q0t,List.mem_flatMap]
     exact⟨e,z7 a,vU b hβ⟩))]
    exact jo
   |jc qt ds es l7=>cases qt with|true=>exact h0|false=>obtain⟨vs,elem,fz,q1,q2,q3,q4,q5,q6,q7,q8,q9⟩:=h0;refine⟨vs,elem,fz,q1,q2,q3,q4,q5,q6,q7,q8,fun i p k a b=>?_⟩;obtain⟨v,k1,k2,k3⟩:=q9 i p k a b;refine⟨v,k1,k2,fun γ' xc hf=>⟨(k3 γ' xc hf).1,iP (k3 γ' xc hf).2 fun δ hδ c hc=>?_⟩⟩;simp only[O?,List.mem_singleton]at hδ;subst hδ;rw[bB,if_pos (hrefs _ (by simp[q0t,hf]))];exact hc
   |xt=>trivial
 inj:=fun γ γ' b b' z h h' u u' =>by rw[bB]at h h';split at h;rotate_left;cases h;split at h';rotate_left;cases h';exact hi.inj γ γ' b b' z h h' u u'
 im:=hi.im
 Vd:=fun γ b z h hu=>by rw[bB]at h;split at h;exact hi.Vd γ b z h hu;cases h
theorem YA{a:Act}{nt:Nat}{s0 s s' :St}{w0:World}{ι0:yp}{Qr:Nat->Prop}(h:Inv w a s ι Im nt)
  (Gk: ∀β b,s0.heap.get β=some b->β<s0.nx) (he:wU w0 s0.heap ι0 Qr w s.heap ι Im) (l:List Nat) (hr:narrow l s0.nx s=some s'):
  Inv w a s' ι Im nt/\wU w0 s0.heap ι0 Qr w s'.heap ι Im:=by unfold narrow at hr;simp only at hr;split at hr<;>cases hr;rename_i hc;simp only[zQ]at hc;refine⟨⟨upto_ok h.heap _ hc.2,fun t=>?_,fun β b hb=>?_,h.size,h.defers⟩,⟨fun β b hb=>?_,he.im,he.pU,fun γ x z hx hu=>?_,he.kF,he.size,he.io⟩⟩;refine iP (oD h.env l t) fun β hβ b hb=>?_;rw[bB,if_pos (Y4 hc.1 t β hβ)];exact hb;simp only[bB]at hb;split at hb;assumption;cases hb;obtain⟨b',q1,q2⟩:=he.comp β b hb;exact⟨b',by simp only[bB];rw[if_pos (Gk β b hb)];exact q1,q2⟩;simp only[bB]at hx;split at hx;exact he.nQ γ x z hx hu;cases hx
theorem Np{a:Act}{nt:Nat}{s0 s:St}{w0:World}{ι0:yp}{Qr:Nat->Prop}(h:Inv w a s ι Im nt)
  (Gk: ∀β b,s0.heap.get β=some b->β<s0.nx) (he:wU w0 s0.heap ι0 Qr w s.heap ι Im) (l:List Nat):
  Inv w a (i5 l s0.nx s) ι Im nt/\wU w0 s0.heap ι0 Qr w (i5 l s0.nx s).heap ι Im:=by unfold i5;split;rename_i s' oM;exact YA h Gk he l oM;exact⟨dB h l,he⟩
theorem M4(g:Nat->Nat): ∀(E:yo)(t:Nat),(Rg g E).get t=(E.get t).c9 g
 |[],t=>by simp[Rg,V!,AV.c9]
 |(i,v)::r,t=>by simp only[Rg,V!];split;rfl;exact M4 g r t
theorem U3: ∀{E:yo}{t β:Nat},β∈(E.get t).refs->β∈U2 E
 |[],t,β,h=>by simp[V!,O?]at h
 |(i,v)::r,t,β,h=>by simp only[V!]at h;simp only[U2,m?];split at h;exact .inl h;exact .inr (U3 h)
theorem YQ(m:Nat)(r:List Nat){β:Nat}(h:β<m):(E? m++r)[β]? =some β:=by rw[p? (by simpa using h)];simp[h]
theorem KH{a:Act}{nt:Nat}{s s' :St}(h:Inv w a s ι Im nt)(l:List Nat)(n:Nat)(hr:canon l n s=some s'):
  ∃ι',Inv w a s' ι' Im nt/\lj n w s.heap ι Im w s'.heap ι' Im:=by unfold canon at hr;split at hr<;>cases hr;rename_i L H' Z6;obtain⟨hs,W9,rr,hL⟩:=oH q0w Z6;refine⟨Zn ι L,⟨hs.hinv h.heap,fun t=>?_,fun β b hb=>?_,h.size,h.defers⟩,⟨fun β b hk hb=>?_,fun _ h=>h,fun _ h=> .inl h,fun γ x z hx hu=>?_,fun _ _ _=>rfl,jv _,⟨rfl,rfl⟩⟩⟩;rw[M4];exact Ze _ (oD h.env l t) fun β hβ b hb=>hs.Bv (W9 β (U3 hβ)) b hb;obtain⟨γ,b0,q1,_⟩:=hs.inv (ι:=ι) hb;have:=(qF q1).1;show β<H'.length;rw[hs.len];exact this;(have hl:L[β]? =some β:=by rw[hL];exact YQ n rr hk);(refine⟨b.c9 (pos L),by rw[hs.look,hl];simp[hb], ?_⟩;have:Zn ι L β=ι β:=by simp[Zn,hl]);rw[this];exact J6 (pos L) (uV b (ι β));obtain⟨β,b0,h1,h2,rfl,h4⟩:=hs.inv (ι:=ι) hx;rw[qD.nW,h4]at hu;exact .inr ⟨β,b0,h2,hu⟩
theorem WJ: ∀(E:yo)(n:Nat)(x:AV)(t:Nat),(setEnv E n x).get t=if t=n then x else E.get t
 |[],n,x,t=>by simp only[setEnv,V!];by_cases h:n=t;simp[h];simp[h,u_ h]
 |(i,v)::r,n,x,t=>by simp only[setEnv];split;rename_i h;subst h;simp only[V!];by_cases h2:i=t;simp[h2];simp[h2,u_ h2];rename_i h;simp only[V!,WJ r n x t];by_cases h2:i=t;subst h2;simp[h];simp[h2]
theorem q09(hi:zd w H ι Im){nx:Nat}(xV: ∀β b,H.get β=some b->β<nx):
  zd w (H.put nx (.row true 0 [])) (jW ι nx ⟨0,0,[]⟩) Im/\wU w H ι Im w (H.put nx (.row true 0 [])) (jW ι nx ⟨0,0,[]⟩) Im:=by have hf:=KY (X:=fun _=>False) (fun β b h=> .inl (xV β b h)) id;exact zd.put (Xn:=Ns hf) hi nx (.row true 0 []) ⟨0,0,[]⟩ (fun x hx=>by rw[hf]at hx;cases hx) ⟨jv _,rfl,rfl⟩ (fun _ _ _=>rfl) (fun h=>by cases h) (fun _=>rfl)
theorem YC{H' :qp}{nx:Nat}(hg:H'.get nx=some (.row true 0 []))(ι' :yp):RA w H' ι' Im (.row nx 0 0 0) (.slice none 0 0):=
 .row nx 0 0 0 _ _ rfl hg (fun _=>⟨_,_,_,rfl⟩) (fun _ _ _ e=>by cases e;exact jv _) fun _ _ _ e _=>by cases e;exact⟨jv _,z?⟩
theorem YD{sz:Nat}{v:Value}(h:RA w H ι Im (.pv (.sl true sz [])) v):v= .slice none 0 0:=by have:=h.gA;cases this;rfl
theorem fh{a:Act}{nt:Nat}: ∀(l:List Nat){ι:yp}{s:St},Inv w a s ι Im nt->
  ∃ι',Inv w a (k9 l s) ι' Im nt/\wU w s.heap ι Im w (k9 l s).heap ι' Im
 |[],ι,s,h=>⟨ι,h,W! _ _ _ _⟩
 |t::r,ι,s,h=>by simp only[k9];split;(rename_i sz ht;obtain⟨h1,e1⟩:=q09 h.heap h.nx;have hv:a.tmps.getD t undef= .slice none 0 0:=YD (ht ▸ h.env t);have hinv:Inv w a { env:=setEnv s.env t (.row s.nx 0 0 0),heap:=q_ s.heap s.nx (.row true 0 []),nx:=s.nx+1 } (jW ι s.nx ⟨0,0,[]⟩) Im nt:=by refine⟨h1,fun t' =>?_,fun β b hb=>?_,h.size,h.defers⟩;simp only[WJ];split;rename_i e;subst e;rw[hv];exact YC (by simp[p!]) _;exact(h.env t').mono h.heap e1;simp only[p!]at hb;split at hb;rename_i e;subst e;exact q11 _;have:=h.nx β b hb;exact K_ this);obtain⟨ι',h2,e2⟩:=fh r hinv;exact⟨ι',h2,e1.trans e2⟩;exact fh r h
theorem bQ{a:Act}{nt:Nat}: ∀(l:List (Nat×Nat)){ι:yp}{s:St},Inv w a s ι Im nt->
  ∃ι',Inv w a (xb l s) ι' Im nt/\wU w s.heap ι Im w (xb l s).heap ι' Im
 |[],ι,s,h=>⟨ι,h,W! _ _ _ _⟩
 |(t,k)::r,ι,s,h=>by
  simp only[xb];split;rotate_left;exact bQ r h;rename_i β o ht;split;rotate_left;exact bQ r h;rename_i c hb;split;rotate_left;exact bQ r h;(rename_i sz hc;obtain⟨h1,e1⟩:=q09 h.heap h.nx;have hβ:β≠s.nx:=fun e=>by have:=h.nx β _ hb;omega);have UW:(q_ s.heap s.nx (.row true 0 [])).get β=some (.box c):=by simp[p!,hβ,hb]
  obtain⟨h2,e2⟩:=zd.put (Xn:=noO UW rfl) (w' :=w) h1 β (.box (c.set (o+k) (.row s.nx 0 0 0))) (jW ι s.nx ⟨0,0,[]⟩ β) (fun x hx=>by rw[UW]at hx;cases hx;rfl) ⟨jv _,rfl,rfl⟩ (fun _ _ _=>rfl)
   (fun _=> .inr ⟨_,UW,rfl,rfl⟩) (fun he=>by
    obtain⟨vs,elem,fz,q1,q2,q3,q4,q5⟩:=h1.box UW
    refine⟨vs,elem,fz,by simpa using q1,q2,by simpa using q3,fun x hx=>?_,fun i x v hx hv=>?_⟩
    ·rcases List.mem_or_eq_of_mem_set hx with hx|rfl
     ·exact q4 x hx
     rfl
    rw[List.getElem?_set]at hx
    split at hx
    ·rename_i e
     subst e
     split at hx<;>cases hx
     have:=q5 (o+k) _ v hc hv
     rw[YD this]
     refine YC ?_ _
     simp[p!,u_ hβ]
    exact(q5 i x v hx hv).mono h1 he)
  (have hinv:Inv w a { env:=s.env,heap:=q_ (q_ s.heap s.nx (.row true 0 [])) β (.box (c.set (o+k) (.row s.nx 0 0 0))),nx:=s.nx+1 } (jW (jW ι s.nx ⟨0,0,[]⟩) β (jW ι s.nx ⟨0,0,[]⟩ β)) Im nt:=by refine⟨h2,fun t' =>(h.env t').mono h.heap (e1.trans e2),fun γ b hγ=>?_,h.size,h.defers⟩;simp only[p!]at hγ;split at hγ;rename_i e;subst e;have:=h.nx γ _ hb;exact K_ this;split at hγ;rename_i e;subst e;exact q11 _;have:=h.nx γ b hγ;exact K_ this);obtain⟨ι',h3,e3⟩:=bQ r hinv;exact⟨ι',h3,(e1.trans e2).trans e3⟩
theorem OC{a:Act}{nt:Nat}{s:St}(sp:pA)(h:Inv w a s ι Im nt):
  ∃ι' jT,Inv w a (enter sp s) ι' jT nt/\wU w s.heap ι Im w (enter sp s).heap ι' jT:=by unfold enter;obtain⟨ι1,h1,e1⟩:=fh sp.k9 h;obtain⟨ι2,h2,e2⟩:=bQ sp.xb h1;obtain⟨Im3,h3,e3⟩:=tz (dh (xb sp.xb (k9 sp.k9 s)).env (xb sp.xb (k9 sp.k9 s)).heap sp.freeze) h2;exact⟨ι2,Im3,dB h3 sp.XN,(e1.trans e2).trans e3⟩
theorem lj.Hb{k k' :Nat}{w w' :World}{H H' :qp}{ι ι' :yp}{Im jT:Nat->Prop}(h:lj k w H ι Im w' H' ι' jT)(hk:k' <=k):lj k' w H ι Im w' H' ι' jT:=
 ⟨fun β b h1 h2=>h.comp β b o? h2,h.im,h.pU,h.nQ,h.kF,h.size,h.io⟩
theorem QT.Hb[xd]{k k' :Nat}{w:World}{H:qp}{ι:yp}{Im:Nat->Prop}{nt:Nat}{s:St}{a:Act}{w' :World}(h:QT k w H ι Im nt s a w')(hk:k' <=k):QT k' w H ι Im nt s a w' :=
 let⟨ι',jT,h1,h2⟩:=h
 ⟨ι',jT,h1,h2.Hb hk⟩
theorem DS{a:Act}{nt:Nat}{s s1:St}(sp:pA)(h:Inv w a s ι Im nt)(hr:ep sp s=some s1):
  ∃ι' jT,Inv w a s1 ι' jT nt/\lj (s1.nx-sp.off) w s.heap ι Im w s1.heap ι' jT/\(∀ β b,s.heap.get β=some b->β<s1.nx-sp.off):=by
 obtain⟨ι1,iX,h1,e1⟩:=OC sp h;have plain:s1=enter sp s->sp.off=0-> ∃ι' jT,Inv w a s1 ι' jT nt/\lj (s1.nx-sp.off) w s.heap ι Im w s1.heap ι' jT/\(∀ β b,s.heap.get β=some b->β<s1.nx-sp.off):=by rintro rfl h0;refine⟨ι1,iX,h1,e1.toK _,fun β b hb=>?_⟩;obtain⟨b',q1,_⟩:=e1.comp β b hb;have:=h1.nx β b' q1;omega
 unfold ep at hr;split at hr;rename_i hg;cases hr;exact plain rfl (by simp[q1m,hg]);rename_i hg;have oZ:sp.off=sp.own:=by simp[q1m,hg]
 split at hr;rename_i h0;cases hr;exact plain rfl o?;rename_i k h0;split at hr;rotate_left;cases hr;rename_i s2 El;split at hr<;>cases hr;rename_i hn;obtain⟨ι2,h2,e2⟩:=KH h1 sp.XN s.nx El;have:s1.nx-sp.off=s.nx:=o?;rw[this];exact⟨ι2,iX,h2,(e1.toK _).trans e2,h.nx⟩
theorem IW{a:Act}{nt:Nat}{s0 s s' :St}{w0:World}{ι0:yp}{Qr:Nat->Prop}(sp:pA)(h:Inv w a s ι Im nt)
  (Gk: ∀β b,s0.heap.get β=some b->β<s0.nx) (he:wU w0 s0.heap ι0 Qr w s.heap ι Im) (hr:again sp s0.nx s=some s'):
  ∃ι',Inv w a s' ι' Im nt/\lj (s0.nx-sp.off) w0 s0.heap ι0 Qr w s'.heap ι' Im/\s0.nx-sp.off<=s'.nx-sp.off:=by
 unfold again at hr;split at hr;rename_i hg;unfold bc at hr;split at hr<;>cases hr;rename_i hn;obtain⟨ι1,h1,e1⟩:=fh sp.k9 h;obtain⟨ι2,h2,e2⟩:=bQ sp.xb h1;exact⟨ι2,dB h2 sp.XN,((he.trans e1).trans e2).toK _,Nat.sub_le_sub_right hn _⟩;rename_i hg;have oZ:sp.off=sp.own:=by simp[q1m,hg]
 split at hr;rename_i h0;obtain⟨h2,e2⟩:=YA h Gk he _ hr;refine⟨ι,h2,e2.toK _, ?_⟩;unfold narrow at hr;simp only at hr;split at hr<;>cases hr;exact jv _;rename_i k h0;split at hr;rotate_left;cases hr;rename_i s2 El;split at hr<;>cases hr;rename_i hn;obtain⟨ι1,h1,e1⟩:=fh sp.k9 h;obtain⟨ι2,h2,e2⟩:=bQ sp.xb h1;obtain⟨ι3,h3,e3⟩:=KH h2 sp.XN _ El;rw[oZ,h0];exact⟨ι3,h3,(((he.trans e1).trans e2).toK _).trans e3,o?⟩
theorem Wi{a:Act}{nt:Nat}{s0 s s' :St}{w0:World}{ι0:yp}{Qr:Nat->Prop}(sp:pA)(h:Inv w a s ι Im nt)
  (Gk: ∀β b,s0.heap.get β=some b->β<s0.nx) (he:wU w0 s0.heap ι0 Qr w s.heap ι Im) (hr:leave sp s0.nx s=some s'):
  ∃ι',Inv w a s' ι' Im nt/\lj (s0.nx-sp.off) w0 s0.heap ι0 Qr w s'.heap ι' Im:=by
 unfold leave at hr;split at hr;cases hr;exact⟨ι,dB h sp.out,he.toK _⟩;rename_i hg;have oZ:sp.off=sp.own:=by simp[q1m,hg]
 split at hr;cases hr;obtain⟨h2,e2⟩:=Np h Gk he sp.out;exact⟨ι,h2,e2.toK _⟩;rename_i k h0;obtain⟨ι3,h3,e3⟩:=KH h sp.out _ hr;rw[oZ,h0];exact⟨ι3,h3,(he.toK _).trans e3⟩
theorem XM{ex ex' :Ex}{o:Option St}{s:St}(h:left ex o=some (ex',s)):o=some s/\ex' =ex:=by unfold left at h;split at h<;>cases h;exact⟨rfl,rfl⟩
end
section
variable [xd] {P:Program} {w:World} {H:qp} {ι:yp} {Im:Nat->Prop}
theorem RA.ext{H' :qp}(h: ∀γ,H'.get γ=H.get γ){x:AV}{v:Value}(hx:RA w H ι Im x v):RA w H' ι Im x v:=
 iP hx fun β _ b hb=>by rw[h];exact hb
theorem zd.ext{H' :qp}(h: ∀γ,H'.get γ=H.get γ)(hi:zd w H ι Im):zd w H' ι Im where
 BM:=hi.BM
 Vx:=hi.Vx
 rk:=fun β b hb=>by rw[h]at hb;have h0:=hi.rk β b hb;cases b with|box c=>obtain⟨vs,elem,fz,q1,q2,q3,q4,q5⟩:=h0;exact⟨vs,elem,fz,q1,q2,q3,q4,fun i x v a b=>(q5 i x v a b).ext h⟩|row qt sz es=>cases qt<;>exact h0|map es zW=>exact h0|mz sz es=>obtain⟨vs,elem,fz,q1,q2,q3,q4,q5,q6,q7,q8⟩:=h0;exact⟨vs,elem,fz,q1,q2,q3,q4,q5,q6,q7,fun i e j x a b=>(q8 i e j x a b).imp fun v k=>⟨k.1,k.2.ext h⟩⟩|jc qt ds es l7=>(cases qt with|true=>exact h0|false=>obtain⟨vs,elem,fz,q1,q2,q3,q4,q5,q6,q7,q8,q9⟩:=h0;refine⟨vs,elem,fz,q1,q2,q3,q4,q5,q6,q7,q8,fun i p k a b=>?_⟩;obtain⟨v,k1,k2,k3⟩:=q9 i p k a b;exact⟨v,k1,k2,fun γ' xc hf=>⟨(k3 γ' xc hf).1,(k3 γ' xc hf).2.ext h⟩⟩)|xt=>trivial
 inj:=fun β β' b b' z h1 h2=>hi.inj β β' b b' z (by rw[<- h];exact h1) (by rw[<- h];exact h2)
 im:=hi.im
 Vd:=fun β b z hb=>hi.Vd β b z (by rw[<- h];exact hb)
theorem wU.ext{w0:World}{H0 H' :qp}{ι0:yp}{Qr:Nat->Prop}(h: ∀γ,H'.get γ=H.get γ)(he:wU w0 H0 ι0 Qr w H ι Im):wU w0 H0 ι0 Qr w H' ι Im where
 comp:=fun β b hb=>by obtain⟨b',q1,q2⟩:=he.comp β b hb;exact⟨b',by rw[h];exact q1,q2⟩
 im:=he.im
 pU:=he.pU
 nQ:=fun β x z hx=>he.nQ β x z (by rw[<- h];exact hx)
 kF:=he.kF
 size:=he.size
 io:=he.io
structure At (G:GP) (O:xi) (all:List Oper) (tm:Bool) (os:List Oper) (cs:List Rc) (i:Nat) (s:St) (j:Nat) (o:Oper) (c:Rc):Prop where
 env:c.E=tM os cs i (fun k=>decide (k<i+j)) s.env
 heap:c.H=wy cs i (fun k=>decide (k<i+j)) s.heap
 guard:yB all o c.E=some c.on
 on:c.on=true->(∃ wf,mB G O o.op c.E c.H c.nx=some (c.v,wf,c.fg)/\c.ws=eH tm c.rd c.H wf)/\c.rd=tg o.op c.E c.H
 off:c.on=false->c.v= .xR []/\c.ws=[]/\c.fg=c.nx/\c.rd=[]
 nx:s.nx<=c.nx
 bd: ∀β b,c.H.get β=some b->β<c.nx
 fg:c.nx<=c.fg
 keys:(∀ x∈c.keys,x<c.fg)/\ ∀γ,c.nx<=γ->γ<c.fg->γ∈c.keys
theorem TP: ∀(ws:List (Nat×qD)){H:qp}{γ:Nat}{b:qD},(z6 ws H).get γ=some b->γ∈ws.map (·.1)\/H.get γ=some b
 |ws,H,γ,b,h=>by by_cases hr:γ∈ws.map (·.1);exact .inl hr;have jx: ∀x∈ws,x.1≠γ:=fun x hx e=>hr (by rw[<- e];exact N?.2 ⟨x,hx,rfl⟩);rw[jM ws _ γ jx]at h;exact .inr h
theorem KI{G:GP}{O:xi}{all:List Oper}{tm:Bool}{o:Oper}{r:List Oper}{c:Rc}{cs:List Rc}{s s' :St}(h:nJ G O all tm (o::r) (c::cs) s s')(hb: ∀β b,s.heap.get β=some b->β<s.nx):
  s.nx<=c.fg/\(∀ x∈c.keys,x<c.fg)/\(∀ γ,s.nx<=γ->γ<c.fg->γ∈c.keys)/\ ∀β b,(z6 c.ws s.heap).get β=some b->β<c.fg:=by
 obtain⟨_,_,_,_,h5,h6,_⟩:=h;have key:s.nx<=c.fg/\(∀ x∈c.ws,x.1<c.fg)/\ ∀γ,s.nx<=γ->γ<c.fg->γ∈c.ws.map (·.1):=by cases Ff:c.on with|true=>obtain⟨⟨wf,h8,h9⟩,_⟩:=h5 Ff;obtain⟨g1,g2,g3⟩:=IZ h8 hb;rw[h9];refine⟨g1,fun x hx=>g2 x (RM hx),fun γ a b=>?_⟩;rcases RK (tm:=tm) (rd:=c.rd) (H:=s.heap) (g3 γ a b)with h|⟨b',h⟩;exact h;have:=hb γ b' h;omega|false=>obtain⟨_,e2,e3,_⟩:=h6 Ff;rw[e2,e3];exact⟨jv _,z?,fun γ a b=>o?⟩
 obtain⟨k1,k2,k3⟩:=key;refine⟨k1,fun x hx=>?_,k3,fun β b hβ=>?_⟩;obtain⟨y,hy,rfl⟩:=N?.1 hx;exact k2 y hy;rcases TP _ hβ with h|h;obtain⟨y,hy,rfl⟩:=N?.1 h;exact k2 y hy;have:=hb β b h;omega
theorem ZE{G:GP}{O:xi}{all:List Oper}{tm:Bool}: ∀{os:List Oper}{cs:List Rc}{s s' :St},nJ G O all tm os cs s s' ->(∀ β b,s.heap.get β=some b->β<s.nx)-> ∀(i j:Nat)(o:Oper)(c:Rc),os[j]? =some o->cs[j]? =some c->
  At G O all tm os cs i s j o c
 |[],_,_,_,_,_,_,_,_,_,ho,_=>by simp at ho
 |_::_,[],_,_,h,_,_,_,_,_,_,_=>h.elim
 |o' ::os,c' ::cs,s,s',h,hb,i,j,o,c,ho,hc=>by obtain⟨k1,k2,k3,k4⟩:=KI h hb;obtain⟨h1,h2,h3,h4,h5,h6,h7⟩:=h;cases j with|zero=>simp only[a?,kG]at ho hc;subst ho hc;refine⟨?_, ?_,by rw[h1];exact h4,by rw[h1,h2,h3];exact h5,by rw[h3];exact h6,by rw[h3];exact jv _,by rw[h2,h3];exact hb,by rw[h3];exact k1,k2,by rw[h3];exact k3⟩;rw[og _ _ _ _ _ fun k hk=>by simpa using hk,h1];rw[mH _ _ _ _ fun k hk=>by simpa using hk,h2]|succ j=>(simp only[l?]at ho hc;have:=ZE h7 k4 (i+1) j o c ho hc;have e:(fun k=>decide (k<i+(j+1)))=fun k=>decide (k<i+1+j):=by funext k;rw[show i+(j+1)=i+1+j from o?]);refine⟨?_, ?_,this.guard,this.on,this.off,n! k1 this.nx,this.bd,this.fg,this.keys⟩;rw[this.env,e];simp only[tM];rw[if_pos v?];rw[this.heap,e];simp only[wy];rw[if_pos v?]
theorem XC{G:GP}{O:xi}{all:List Oper}{tm:Bool}: ∀{os:List Oper}{cs:List Rc}{s s' :St},nJ G O all tm os cs s s' ->(∀ β b,s.heap.get β=some b->β<s.nx)-> ∀(i:Nat),
  s'.env=tM os cs i (fun _=>true) s.env/\s'.heap=wy cs i (fun _=>true) s.heap/\s.nx<=s'.nx/\(∀ β b,s'.heap.get β=some b->β<s'.nx)/\
   (∀(j:Nat)(c:Rc),cs[j]? =some c->s.nx<=c.nx/\c.fg<=s'.nx)/\ ∀(a b:Nat)(ca cb:Rc),a<b->cs[a]? =some ca->cs[b]? =some cb->ca.fg<=cb.nx
 |[],[],s,s',h,hb,i=>by have h' :s' =s:=h;subst h';exact⟨rfl,rfl,jv _,hb,z?,z?⟩
 |[],_::_,_,_,h,_,_=>h.elim
 |_::_,[],_,_,h,_,_=>h.elim
 |o::os,c::cs,s,s',h,hb,i=>by obtain⟨k1,k2,k3,k4⟩:=KI h hb;obtain⟨h1,h2,h3,h4,h5,h6,h7⟩:=h;obtain⟨q1,q2,q3,q4,q5,q6⟩:=XC h7 k4 (i+1);refine⟨?_, ?_,n! k1 q3,q4,fun j c' Gh=>?_,fun a b ca cb eR ha jo=>?_⟩;rw[q1];simp[tM];rw[q2];simp[wy];(cases j with|zero=>simp only[a?,kG]at Gh;subst Gh;exact⟨by rw[h3];exact jv _,q3⟩|succ j=>simp only[l?]at Gh;obtain⟨r1,r2⟩:=q5 j c' Gh;simp only at r1;exact⟨n! k1 r1,r2⟩);cases b with|zero=>omega|succ b=>simp only[l?]at jo;cases a with|zero=>simp only[a?,kG]at ha;subst ha;exact(q5 b cb jo).1|succ a=>simp only[l?]at ha;exact q6 a b ca cb o? ha jo
def De(nt:Nat)(os:List Oper)(cs:List Rc)(s:St)(w0:World)(ι0:yp)(Qr:Nat->Prop)(D:Nat->Bool)(a:Act)(w:World):Prop:=
 ∃ι Im,zd w (wy cs 0 D s.heap) ι Im/\(∀ t,RA w (wy cs 0 D s.heap) ι Im ((tM os cs 0 D s.env).get t) (a.tmps.getD t undef))/\nt<=a.tmps.size/\a.defers=[]/\
  wU w0 s.heap ι0 Qr w (wy cs 0 D s.heap) ι Im
def sm(D:Nat->Bool)(j:Nat):Nat->Bool:=fun k=>decide (k=j) || D k
theorem LI{ops:Array Oper}{o:Oper}{E E' :yo}(h: ∀t∈o.looksAt ops,E'.get t=E.get t):(∀ x∈o.op.operands,ev E' x=ev E x)/\yB ops.toList o E' =yB ops.toList o E:=by constructor;(intro x hx;cases x with|tmp t=>refine h t ?_;unfold Oper.looksAt;refine List.mem_append_left _ (List.mem_filterMap.2 ⟨.tmp t,by simpa using hx,rfl⟩)|_=>rfl);unfold yB;cases hg:o.guard with|none=>rfl|some g=>obtain⟨j,want⟩:=g;simp only;cases hj:ops.toList[j]? with|none=>rfl|some oj=>simp only;cases hd:oj.dst with|none=>rfl|some d=>(simp only;rw[h d];unfold Oper.looksAt;refine List.mem_append_right _ ?_;rw[hg];have:ops[j]? =some oj:=by rw[<- H?];exact hj);simp[this,hd]
theorem step_ok{G:GP}{O:xi}(hG:yA P G)(hO:SoundCall P O){nt:Nat}{ops:Array Oper}(hd:Y8 nt ops.toList)(hdr:XD ops.toList=true){cs:List Rc}{s s' :St}{tm:Bool}
  (Vy:nJ G O ops.toList tm ops.toList cs s s') (F6: ∀β b,s.heap.get β=some b->β<s.nx) (Xl:mG (wG [] ops.toList) (Yu 0 cs [])=true)
  {w0:World} {ι0:yp} {Qr:Nat->Prop} {D:Nat->Bool} (hD:P4 ops.toList D) {j:Nat} {o:Oper} (ho:ops.toList[j]? =some o) (hj:D j=false)
  (VD: ∀e∈o.after,Region.binds .any e=true->D e.on=true) {a:Act} {w:World} (h:De nt ops.toList cs s w0 ι0 Qr D a w) (Q:Exit->Act->World->Prop):
  wpOp P ops Q j (De nt ops.toList cs s w0 ι0 Qr (sm D j)) a w:=by
 simp only[XD,zQ]at hdr;obtain⟨hfwd,PX⟩:=hdr;have hlen:=Vy.len;have Gj:j<cs.length:=by rw[hlen];exact(qF ho).1
 obtain⟨c,hc⟩: ∃c,cs[j]? =some c:=⟨_,wx Gj⟩;have PY:=ZE Vy F6 0 j o c ho hc;obtain⟨_,_,_,_,hnxs,hnxp⟩:=XC Vy F6 0;have hord:=(Yv cs 0 [] Xl).2;have ahead: ∀i,ordered (wG [] ops.toList) i j=true->D i=true:=ly hfwd hD j o ho VD;have behind: ∀k,k<ops.toList.length->ordered (wG [] ops.toList) j k=true->D k=false:=fun k hk MK=>by cases MD:D k with|false=>rfl|true=>have:=ly hfwd hD k ops.toList[k] (wx hk) (fun e he hb=>hD k _ (wx hk) MD e he hb) j MK;rw[hj]at this;cases this
 have harr:ops.toList.toArray=ops:=z?;have hlook: ∀t∈o.looksAt ops,(tM ops.toList cs 0 D s.env).get t=c.E.get t:=by intro t ht;rw[PY.env];refine cy _ _ _ _ _ (fun k ok hk hdk=>?_) rfl;simp only[A?];have pS:=(qF hk).1;rcases E! k j with xQ|rfl|MH;rw[decide_eq_true xQ];rcases apart_spec PX xQ hk ho with h1|h1;exact ahead k h1;rw[harr]at h1;exact absurd ht ((Oper.apart_spec h1).1 t hdk);simpa using hj;rw[decide_eq_false o?];rcases apart_spec PX MH ho hk with h1|h1;exact behind k pS h1;rw[harr]at h1;exact absurd ht ((Oper.apart_spec h1).2.2 t hdk)
 obtain⟨hevs,hguard⟩:=LI hlook;obtain⟨ι,Im,hi,JN,mq,BQ,hevo⟩:=h;have T2: ∀(k:Nat)(ck:Rc),cs[k]? =some ck->D k=true->j<k->c.on=true->ck.on=true->Iq c ck:=fun k ck hk MD MK h1 h2=>by rcases(hord k ck hk h2).2 j c MK hc h1 with h3|h3;simp only[A?]at h3;have:=behind k (by rw[<- hlen];exact(qF hk).1) h3;rw[MD]at this;cases this;exact h3
 have OP: ∀(k:Nat)(ck:Rc),cs[k]? =some ck->D k=false->k<j->c.on=true->ck.on=true->Iq ck c:=fun k ck hk MD MK h1 h2=>by rcases(hord j c hc h1).2 k ck MK hk h2 with h3|h3;simp only[A?]at h3;rw[ahead k h3]at MD;cases MD;exact h3
 have ZP: ∀(k:Nat)(ck:Rc),cs[k]? =some ck->ck.on=false->ck.keys=[]:=fun k ck hk oZ=>by (have pS:k<ops.toList.length:=by rw[<- hlen];exact(qF hk).1);have:=(ZE Vy F6 0 k _ ck (wx pS) hk).off oZ;unfold Rc.keys;rw[this.2.1];rfl
 have henv' : ∀t,(tM ops.toList cs 0 (sm D j) s.env).get t=(fj o.dst c.v (tM ops.toList cs 0 D s.env)).get t:=by intro t;rw[fm];by_cases hdt:o.dst=some t;rw[if_pos hdt];refine KP _ _ _ _ j o c ho hc hdt (by simp[sm]) fun k ok hk df hdk=>?_;simp only[A?,sm];rw[decide_eq_false o?,q1d];rcases apart_spec PX hk ho df with h1|h1;exact behind k (qF df).1 h1;rw[harr]at h1;exact absurd hdk ((Oper.apart_spec h1).2.1 t hdt);(rw[if_neg hdt];refine cy _ _ _ _ _ (fun k ok hk hdk=>?_) rfl;simp only[A?,sm];have:k≠j:=fun e=>by subst e;rw[ho]at hk;cases hk;exact hdt hdk);simp[this]
 have OU: ∀γ,(wy cs 0 (sm D j) s.heap).get γ=(z6 c.ws (wy cs 0 D s.heap)).get γ:=by intro γ;by_cases hk:γ∈c.keys;(refine Jg cs 0 s.heap j c hc hk (by simp[sm]) (fun k ck MK BO JO=>?_) _;simp only[A?,sm];rw[decide_eq_false o?,q1d];cases MD:D k with|false=>rfl|true=>(exfalso;have Ff:c.on=true:=by cases h1:c.on with|true=>rfl|false=>rw[ZP j c hc h1]at hk;simp at hk);(have Fg:ck.on=true:=by cases h1:ck.on with|true=>rfl|false=>rw[ZP k ck BO h1]at JO;simp at JO);exact(T2 k ck BO MD MK Ff Fg).2.1 γ hk JO);(have jx: ∀x∈c.ws,x.1≠γ:=fun x hx e=>hk (by rw[<- e];exact N?.2 ⟨x,hx,rfl⟩);rw[jM _ _ _ jx];refine pq _ _ _ _ (fun k ck BO JO=>?_) rfl;simp only[A?,sm];have:k≠j:=fun e=>by subst e;rw[hc]at BO;cases BO;exact hk JO);simp[this]
 have ho' :ops[j]? =some o:=by rw[<- H?];exact ho
 have hdo: ∀t,o.dst=some t->t<nt:=hd o (z7 ho);unfold wpOp;rw[ho'];simp only;have hgd:yB ops.toList o (tM ops.toList cs 0 D s.env)=some c.on:=by rw[hguard];exact PY.guard
 rw[W0 JN hgd];cases Ff:c.on with|false=>(rw[if_neg z?];obtain⟨e1,e2,e3,e4⟩:=PY.off Ff;have hh: ∀γ,(wy cs 0 (sm D j) s.heap).get γ=(wy cs 0 D s.heap).get γ:=fun γ=>by rw[OU γ,e2];rfl);refine⟨ι,Im,hi.ext hh,fun t=>?_,by rw[q1u];exact mq,by rw[C_];exact BQ,hevo.ext hh⟩;rw[henv' t,e1];exact(K1 JN mq hdo NK t).ext hh|true=>(rw[if_pos rfl];refine .inl ?_;obtain⟨⟨wf,e1,e1'⟩,e2⟩:=PY.on Ff;have hag:xA (tg o.op c.E c.H) c.H (wy cs 0 D s.heap):=by (intro γ hγ;rw[PY.heap];refine pq _ _ _ _ (fun k ck BO JO=>?_) rfl;simp only[A?];have Fg:ck.on=true:=by cases h1:ck.on with|true=>rfl|false=>rw[ZP k ck BO h1]at JO;simp at JO);rcases E! k j with xQ|rfl|MH;(rw[decide_eq_true xQ];cases MD:D k with|true=>rfl|false=>exact absurd (e2 ▸ hγ) ((OP k ck BO MD xQ Ff Fg).1 γ JO));simpa using hj;rw[decide_eq_false o?];cases MD:D k with|false=>rfl|true=>exact absurd JO ((T2 k ck BO MD MH Ff Fg).2.2 γ (e2 ▸ hγ)));(have ZQ:mB G O o.op (tM ops.toList cs 0 D s.env) (wy cs 0 D s.heap) c.nx=some (c.v,wf,c.fg):=by rw[Du hevs hag];exact e1);(have T0: ∀γ,(wy cs 0 (sm D j) s.heap).get γ=(z6 wf (wy cs 0 D s.heap)).get γ:=fun γ=>by rw[OU γ,e1'];exact RL (by rw[e2];exact hag) γ);(have hX:Bd (fun γ=>c.fg<=γ) (wy cs 0 D s.heap) c.nx:=by intro β b hb;by_cases h1:β<c.nx;exact .inl h1;by_cases h2:c.fg<=β;exact .inr h2;(exfalso;have dE:β∈c.keys:=PY.keys.2 β o? o?;have Yl:(wy cs 0 D s.heap).get β=s.heap.get β:=by rw[pq (D' :=fun _=>false) cs 0 s.heap s.heap (fun k ck BO JO=>?_) rfl,mH _ _ _ _ fun _ _=>rfl];simp only[A?];cases MD:D k with|false=>rfl|true=>(exfalso;have pS:k<ops.toList.length:=by rw[<- hlen];exact(qF BO).1);(have hatk:=ZE Vy F6 0 k _ ck (wx pS) BO;have Fg:ck.on=true:=by cases h1:ck.on with|true=>rfl|false=>rw[ZP k ck BO h1]at JO;simp at JO);rcases E! k j with xQ|rfl|MH;have h3:=hatk.keys.1 β JO;have h4:=hnxp k j ck c xQ BO hc;omega;rw[hj]at MD;cases MD;exact(T2 k ck BO MD MH Ff Fg).2.1 β dE JO);rw[Yl]at hb;have h3:=F6 β b hb;have h4:=PY.nx;omega);refine q0f hG hO hi JN hX o ZQ (fun γ h=>h) _ Q fun u w' ι' jT q1 q2 q3 q4=>?_;refine⟨ι',jT,q1.ext T0,fun t=>?_,by rw[q1u];exact mq,by rw[C_];exact BQ,(hevo.trans q2).ext T0⟩;rw[henv' t];exact(K1 (fun t=>(JN t).mono hi q2) mq hdo q3 t).ext T0
theorem Jc{p p' :Nat->Bool}{j:Nat}: ∀(l:List Nat),(∀ x,p' x=true->p x=true)->j∈l->p j=true->p' j=false->(l.filter p').length<(l.filter p).length
 |[],_,hj,_,_=>by simp at hj
 |x::r,hp,hj,h1,h2=>by (have hle: ∀(l:List Nat),(l.filter p').length<=(l.filter p).length:=by intro l;induction l with|nil=>simp|cons y r ih=>simp only[T!];cases h:p' y with|true=>rw[hp y h];simp;exact ih|false=>cases p y<;>simp<;>omega);simp only[T!];rcases U?.1 hj with rfl|hj;rw[h1,h2];have:=hle r;simp;omega;have ih:=Jc r hp hj h1 h2;cases h:p' x with|true=>rw[hp x h];simp;exact ih|false=>cases p x<;>simp<;>omega
theorem any_ok{G:GP}{O:xi}(hG:yA P G)(hO:SoundCall P O){nt:Nat}{ops:Array Oper}(hd:Y8 nt ops.toList)(hdr:XD ops.toList=true){cs:List Rc}{s s' :St}{tm:Bool}
  (Vy:nJ G O ops.toList tm ops.toList cs s s') (F6: ∀β b,s.heap.get β=some b->β<s.nx) (Xl:mG (wG [] ops.toList) (Yu 0 cs [])=true)
  {w0:World} {ι0:yp} {Qr:Nat->Prop} (Q:Exit->Act->World->Prop) (hq: ∀a w,De nt ops.toList cs s w0 ι0 Qr (fun _=>true) a w->Q .normal a w):
  ∀(fuel:Nat)(ud:Array Bool)(a:Act)(w:World),ud.size=ops.size->P4 ops.toList (fun k=>ud.getD k false)->
   ((E? ops.size).filter fun k=> !ud.getD k false).length<=fuel->De nt ops.toList cs s w0 ι0 Qr (fun k=>ud.getD k false) a w->wpAny P .any ops Q fuel ud a w:=by
 have hfull: ∀(D:Nat->Bool)(a:Act)(w:World),(∀ k,k<ops.size->D k=true)->De nt ops.toList cs s w0 ι0 Qr D a w->De nt ops.toList cs s w0 ι0 Qr (fun _=>true) a w:=by
  intro D a w hD ⟨ι,Im,h1,h2,h3,h4,h5⟩;have hh: ∀γ,(wy cs 0 (fun _=>true) s.heap).get γ=(wy cs 0 D s.heap).get γ:=fun γ=>
   pq _ _ _ _ (fun k ck BO _=>by
    have:k<ops.size:=by have:=Vy.len;have:=(qF BO).1;simp at *; omega
    simp[hD k this]) rfl
  refine⟨ι,Im,h1.ext hh,fun t=>?_,h3,h4,h5.ext hh⟩;rw[cy (D' :=D) _ _ _ _ s.env (fun k ok df _=>by
    have:k<ops.size:=by have:=(qF df).1;simpa using this
    simp[hD k this]) rfl]
  exact(h2 t).ext hh
 intro fuel;induction fuel with|zero=>((intro ud a w mq hcld hf h;have OM: ∀k,k<ops.size->ud.getD k false=true:=by intro k hk;have h0:((E? ops.size).filter fun k=> !ud.getD k false)=[]:=List.length_eq_zero_iff.1 o?;have:=List.filter_eq_nil_iff.1 h0 k (by simpa using hk);simpa using this);refine⟨?_,hq a w (hfull _ a w OM h)⟩;cases hr:Region.ready .any ops ud with|nil=>rfl|cons i r=>(exfalso;have hi:i∈Region.ready .any ops ud:=by rw[hr];simp);obtain⟨h1,o,ho,_⟩:=mem_ready.1 hi;have xQ:i<ops.size:=(H!.1 ho).1;have h2:=OM i xQ;simp[mq,xQ]at h1 h2;rw[h1]at h2;cases h2)|succ fuel ih=>intro ud a w mq hcld hf h;refine⟨fun hr=>?_,fun i hi=>?_⟩;(refine hq a w (hfull _ a w ?_ h);intro k;induction k using r? with|_ k Gl=>intro hk;cases hD:ud.getD k false with|true=>rfl|false=>(exfalso;have pS:k<ops.toList.length:=by simpa using hk);(have sx:k∈Region.ready .any ops ud:=by refine mem_ready.2 ⟨?_,ops[k],by simp[hk],fun e he hb=>?_⟩;simp[mq,hk]at hD |-;exact hD;have xQ:=BK (by simp only[XD,zQ]at hdr;exact hdr.1) (wx pS) (by simpa using he) hb;exact Gl e.on xQ o?);rw[hr]at sx;simp at sx);(obtain⟨h1,o,ho,h2⟩:=mem_ready.1 hi;have xQ:i<ops.size:=(H!.1 ho).1;have ho' :ops.toList[i]? =some o:=by rw[H?];exact ho);(have hDi:ud.getD i false=false:=by simp[mq,xQ]at h1 |-;exact h1);(have pr:(fun k=>(ud.setIfInBounds i true).getD k false)=sm (fun k=>ud.getD k false) i:=by funext k;simp only[sm];by_cases hk:k=i;subst hk;simp[mq,xQ];simp[hk,Array.getElem?_setIfInBounds_ne (u_ hk)]);refine wpOp_mono (fun a' w' h' =>?_) (step_ok hG hO hd hdr Vy F6 Xl hcld ho' hDi h2 h Q);refine ih (ud.setIfInBounds i true) a' w' (by simpa using mq) ?_ ?_ (by rw[pr];exact h');rw[pr];intro j oj hoj hDj e he hb;simp only[sm,g!,decide_eq_true_eq]at hDj |-;rcases hDj with rfl|hDj;rw[ho']at hoj;cases hoj;exact .inr (h2 e he hb);exact .inr (hcld j oj hoj hDj e he hb);have:=Jc (p:=fun k=> !ud.getD k false) (p' :=fun k=> !(ud.setIfInBounds i true).getD k false) (j:=i) (E? ops.size) (fun x hx=>?_) (by simpa using xQ) (by simpa using hDi) ?_;omega;have ZS:(ud.setIfInBounds i true).getD x false=sm (fun k=>ud.getD k false) i x:=congrFun pr x;rw[ZS]at hx;simp only[sm,w_,Bool.or_eq_false_iff]at hx;simp only[hx.2,Bool.not_false];have ZS:(ud.setIfInBounds i true).getD i false=sm (fun k=>ud.getD k false) i i:=congrFun pr i;rw[ZS];simp[sm]
theorem Rf{G:GP}{O:xi}(hm:P.follows .mixedOrders=true)(hG:yA P G)(hO:SoundCall P O){nt:Nat}(id:Nat)(ops:Array Oper)(hd:Y8 nt ops.toList)(hdr:XD ops.toList=true)
  {a:Act} {s s' :St} (h:Inv w a s ι Im nt) {tm:Bool} (hr:dV G O ops.toList tm 0 ops.toList s []=some s') (Q:Exit->Act->World->Prop)
  (hq: ∀a' w',aE w s.heap ι Im nt s' a' w' ->Q .normal a' w'):(Code.region id ops true).wp P Q a w:=by
 obtain⟨cs,Vy,Xl⟩:=lr ops.toList hr;obtain⟨q1,q2,q3,q4,_,_⟩:=XC Vy h.nx 0;refine wp_region_any hm ?_;have PZ:({ w with drawn:=w.drawn+1 }:World).heap=w.heap:=rfl;have Yl:(fun k=>(y_ ops.size false).getD k false)=fun _=>false:=by funext k;simp[Array.getElem?_replicate];split<;>rfl
 refine any_ok hG hO hd hdr Vy h.nx Xl (w0:=w) (ι0:=ι) (Qr:=Im) Q (fun a' w' h' =>?_) ops.size _ a _ z? ?_ ?_ ?_;obtain⟨ι',jT,p1,p2,p3,p4,p5⟩:=h';rw[<- q2]at p1 p2 p5;rw[<- q1]at p2;exact hq a' w' ⟨ι',jT,⟨p1,p2,q4,p3,p4⟩,p5⟩;rw[Yl];intro j o _ hj;cases hj;have:=List.length_filter_le (fun k=> !(y_ ops.size false).getD k false) (E? ops.size);simpa using this;rw[Yl];refine⟨ι,Im, ?_,fun t=>?_,h.size,h.defers, ?_⟩;rw[mH _ _ _ _ fun _ _=>rfl];exact h.heap.bK PZ ⟨rfl,rfl⟩;rw[mH _ _ _ _ fun _ _=>rfl,og _ _ _ _ _ fun _ _=>rfl];exact(h.env t).bK PZ ⟨rfl,rfl⟩ h.heap;rw[mH _ _ _ _ fun _ _=>rfl];exact wU.bK PZ ⟨rfl,rfl⟩
end
def yC:Code->List Nat
 | .seq a b=>yC a++yC b
 | .block id (.loop c)=>id::yC c
 | .block _ c=>yC c
 | .cond _ a b=>yC a++yC b
 | .loop c=>yC c
 |_=>[]
def l6(id:Nat)(b:Code):Code->Prop
 | .seq x y=>l6 id b x\/l6 id b y
 | .block i (.loop c)=>(i=id/\c=b)\/l6 id b c
 | .block _ c=>l6 id b c
 | .cond _ x y=>l6 id b x\/l6 id b y
 | .loop c=>l6 id b c
 |_=>False
theorem Hi{id:Nat}{b:Code}: ∀{c:Code},l6 id b c->id∈yC c:=by
 intro c;fun_induction yC c with
 |case1 x y Z8 XJ=>
  intro h;simp only[l6]at h;simp only[m?];exact h.imp Z8 XJ
 |case2 i c ih=>
  intro h;simp only[l6]at h;rcases h with ⟨rfl,_⟩|h
  ·simp
  simp[ih h]
 |case3 i c hc ih=>
  intro h;refine ih ?_;cases c<;>first|exact absurd rfl (hc _)|exact h
 |case4 o x y Z8 XJ=>
  intro h;simp only[l6]at h;simp only[m?];exact h.imp Z8 XJ
 |case5 c ih=>
  intro h;exact ih (by simpa only[l6]using h)
 |case6 c h1 h2 h3 h4 h5=>
  intro h;cases c<;>simp_all [l6]
theorem QJ{id:Nat}: ∀{c:Code},id∉yC c->zF c id=none:=by
 intro c;fun_induction yC c with
 |case1 x y Z8 XJ=>
  intro h;simp only[m?,not_or]at h;simp[zF,Z8 h.1,XJ h.2]
 |case2 i c ih=>
  intro h;simp only[U?,not_or]at h;simp[zF,ih h.2,u_ h.1]
 |case3 i c hc ih=>
  intro h;have:=ih h;cases c<;>first|exact absurd rfl (hc _)|exact this
 |case4 o x y Z8 XJ=>
  intro h;simp only[m?,not_or]at h;simp[zF,Z8 h.1,XJ h.2]
 |case5 c ih=>
  intro h;simpa only[zF]using ih h
 |case6 c h1 h2 h3 h4 h5=>
  intro h;cases c<;>simp_all [zF]
theorem UF{id:Nat}{b:Code}: ∀{c:Code},(yC c).Nodup->l6 id b c->zF c id=some b:=by
 intro c;fun_induction yC c with
 |case1 x y Z8 XJ=>
  intro hn h;rw[x!]at hn;simp only[l6]at h;simp only[zF];rcases h with h|h
  ·rw[Z8 hn.1 h]
  have h1:id∉yC x:=fun hx=>hn.2.2 id hx id (Hi h) rfl;rw[QJ h1];exact XJ hn.2.1 h
 |case2 i c ih=>
  intro hn h;rw[List.nodup_cons]at hn;simp only[l6]at h;simp only[zF];rcases h with ⟨rfl,rfl⟩|h
  ·simp
  have:i≠id:=fun e=>hn.1 (e ▸ Hi h);rw[if_neg this];exact ih hn.2 h
 |case3 i c hc ih=>
  intro hn h;cases c<;>first|exact absurd rfl (hc _)|exact ih hn h
 |case4 o x y Z8 XJ=>
  intro hn h;rw[x!]at hn;simp only[l6]at h;simp only[zF];rcases h with h|h
  ·rw[Z8 hn.1 h]
  have h1:id∉yC x:=fun hx=>hn.2.2 id hx id (Hi h) rfl;rw[QJ h1];exact XJ hn.2.1 h
 |case5 c ih=>
  intro hn h;simpa only[zF]using ih hn (by simpa only[l6]using h)
 |case6 c h1 h2 h3 h4 h5=>
  intro hn h;cases c<;>simp_all [l6]
def gy(nt:Nat):Code->Bool
 | .region _ ops d=>opsOK nt ops.toList&&(!d || XD ops.toList)
 | .seq a b=>gy nt a&&gy nt b
 | .cond _ a b=>gy nt a&&gy nt b
 | .block _ c=>gy nt c
 | .loop c=>gy nt c
 |_=>true
section
variable [xd] {P:Program} {w:World} {H:qp} {ι:yp} {Im:Nat->Prop}
theorem Sf{G:GP}{O:xi}(hm:P.follows .mixedOrders=true)(hG:yA P G)(hO:Sound P G O)(f:FuncId)(fi:FI)(XF:G.fn f=some fi)(Ei:(yC fi.body).Nodup):
  ∀(c:Code),gy fi.nt c=true->(∀ id b,l6 id b c->l6 id b fi.body)-> ∀{w:World}{ι:yp}{Im:Nat->Prop}{a:Act}{s s' :St}{ex:Ex},Inv w a s ι Im fi.nt->
   exec G O f c s=some (ex,s')->c.wp P (fun e a' w' =>e=ex.BD/\aE w s.heap ι Im fi.nt s' a' w') a w:=by
 intro c;induction c with
  |skip=>intro _ _ w ι Im a s s' ex h hr;simp only[exec,kG,Prod.mk.injEq]at hr;obtain⟨rfl,rfl⟩:=hr;exact wp_skip ⟨rfl,ι,Im,h,W! _ _ _ _⟩
  |region id ops d=>intro df _ w ι Im a s s' ex h hr;simp only[gy,zQ]at df;cases d with|false=>simp only[exec]at hr;split at hr<;>cases hr;rename_i hs;obtain⟨ι1,iX,h1,e1⟩:=JZ (G.cmd f (2*id)) h;exact Ao hG hO.toSoundCall id ops (Wt df.1) h1 hs _ fun a' w' aA=>⟨rfl,(aA.from e1).post _⟩|true=>simp only[exec]at hr;split at hr<;>cases hr;rename_i hs;obtain⟨ι0,Qr,h0,e0⟩:=JZ (G.cmd f (2*id)) h;obtain⟨iX,h1,e1⟩:=tz (dh (pL (G.cmd f (2*id)) s).env (pL (G.cmd f (2*id)) s).heap (G.pre f id)) h0;exact Rf hm hG hO.toSoundCall id ops (Wt df.1) (by simpa using df.2) h1 hs _ fun a' w' aA=>⟨rfl,(aA.from (e0.trans e1)).post _⟩
  |seq x y Z8 XJ=>intro df VC w ι Im a s s' ex h hr;simp only[gy,zQ]at df;simp only[exec]at hr;refine wp_seq ?_;split at hr;rename_i s1 nH;refine wp_mono (Z8 df.1 (fun id b ho=>VC id b (by simp only[l6];exact .inl ho)) h nH) fun e a1 w1⟨he,ι1,iX,h1,e1⟩=>?_;subst he;refine wp_mono (XJ df.2 (fun id b ho=>VC id b (by simp only[l6];exact .inr ho)) h1 hr) fun e a2 w2⟨he,aA⟩=>⟨he,aA.from e1⟩;rename_i s1 nH;cases hr;refine wp_mono (Z8 df.1 (fun id b ho=>VC id b (by simp only[l6];exact .inl ho)) h nH) fun e a1 w1⟨he,aA⟩=>?_;subst he;exact⟨rfl,aA⟩;rename_i i s1 nH;cases hr;refine wp_mono (Z8 df.1 (fun id b ho=>VC id b (by simp only[l6];exact .inl ho)) h nH) fun e a1 w1⟨he,aA⟩=>?_;subst he;exact⟨rfl,aA⟩;cases hr
  |cond o x y Z8 XJ=>intro df VC w ι Im a s s' ex h hr;simp only[gy,zQ]at df;simp only[exec]at hr;split at hr;rotate_left;cases hr;rename_i b hb;have hv:=QI h.env o;rw[hb]at hv;have hp:=hv.gA;generalize hvo:a.eval o=vo at hp;cases hp;refine wp_cond hvo ?_;cases b with|true=>exact Z8 df.1 (fun id b ho=>VC id b (by simp only[l6];exact .inl ho)) h hr|false=>exact XJ df.2 (fun id b ho=>VC id b (by simp only[l6];exact .inr ho)) h hr
  |block id c ih=>
   intro df VC w ι Im a s s' ex h hr;simp only[gy]at df;refine wp_block ?_;by_cases hl: ∃b,c= .loop b;{obtain⟨b,rfl⟩:=hl;simp only[exec]at hr;split at hr;rotate_left;cases hr;(rename_i s1 nH;obtain⟨ι1,iX,h1,e1,xQ⟩:=DS (G.spec f id) h nH;have Qw:=UF Ei (VC id b (by simp[l6]));obtain⟨jx,n,hwp⟩:=hO.loop f id _ ex s' hr fi b XF Qw;refine wp_mono (wp_loop_rounds n (hwp w ι1 iX a h1)) fun e a' w'⟨he,aA⟩=>?_;have OL:aE w s.heap ι Im fi.nt s' a' w' :=by obtain⟨ι2,Gd,k1,k2⟩:=aA.from e1;exact⟨ι2,Gd,k1,k2.full xQ⟩);cases ex with|normal=>simp only at he;subst he;simp only[Exit.inBlock,if_true];exact⟨rfl,OL⟩|ret=>simp only at he;subst he;exact⟨rfl,OL⟩|exit i=>simp only at he;subst he;simp only[Exit.inBlock,jx i rfl,if_false];exact⟨rfl,OL⟩}
   have hex:exec G O f (.block id c) s=match exec G O f c s with
    |some (.exit i,s')=>if i=id then some (.normal,s')else some (.exit i,s')
    |some (.normal,s')=>some (.normal,s')
    |some (.ret,s')=>some (.ret,s')
    |none=>none:=by
    cases c<;>first|rfl|exact absurd ⟨_,rfl⟩ hl
   rw[hex]at hr;have L4: ∀id b,l6 id b c->l6 id b fi.body:=fun i b ho=>VC i b (by
    cases c<;>first|exact absurd ⟨_,rfl⟩ hl|(simp only[l6];exact ho))
   split at hr;rename_i i s1 nH;refine wp_mono (ih df L4 h nH) fun e a' w'⟨he,aA⟩=>?_;subst he;by_cases hi:i=id;rw[if_pos hi]at hr;cases hr;simp only[Ex.BD,Exit.inBlock,if_pos hi];exact⟨trivial,aA⟩;rw[if_neg hi]at hr;cases hr;simp only[Ex.BD,Exit.inBlock,if_neg hi];exact⟨trivial,aA⟩;rename_i s1 nH;cases hr;refine wp_mono (ih df L4 h nH) fun e a' w'⟨he,aA⟩=>?_;subst he;exact⟨rfl,aA⟩;rename_i s1 nH;cases hr;refine wp_mono (ih df L4 h nH) fun e a' w'⟨he,aA⟩=>?_;subst he;exact⟨rfl,aA⟩;cases hr
  |exit id=>intro _ _ w ι Im a s s' ex h hr;simp only[exec,kG,Prod.mk.injEq]at hr;obtain⟨rfl,rfl⟩:=hr;exact wp_exit ⟨rfl,ι,Im,h,W! _ _ _ _⟩
  |ret=>intro _ _ w ι Im a s s' ex h hr;simp only[exec,kG,Prod.mk.injEq]at hr;obtain⟨rfl,rfl⟩:=hr;exact wp_ret ⟨rfl,ι,Im,h,W! _ _ _ _⟩
  |_=>intro _ _ w ι Im a s s' ex h hr;simp[exec]at hr
end
theorem lE{i id:Nat}{c:Code}(h: ∀b,c≠ .loop b):zF (.block i c) id=zF c id:=by cases c<;>first|rfl|exact absurd rfl (h _)
theorem JK{nt:Nat}{id:Nat}{b:Code}: ∀{c:Code},gy nt c=true->zF c id=some b->gy nt b=true:=by intro c;induction c with|seq x y Z8 XJ=>intro h hf;simp only[gy,zQ]at h;simp only[zF]at hf;split at hf;rename_i c0 hx;cases hf;exact Z8 h.1 hx;exact XJ h.2 hf|block i c ih=>intro h hf;by_cases hl: ∃x,c= .loop x;obtain⟨x,rfl⟩:=hl;simp only[gy]at h ih;simp only[zF]at hf ih;split at hf;cases hf;exact h;exact ih h hf;rw[lE fun x e=>hl ⟨x,e⟩]at hf;exact ih (by simpa only[gy]using h) hf|cond o x y Z8 XJ=>intro h hf;simp only[gy,zQ]at h;simp only[zF]at hf;split at hf;rename_i c0 hx;cases hf;exact Z8 h.1 hx;exact XJ h.2 hf|loop c ih=>intro h hf;simp only[gy]at h;simp only[zF]at hf;exact ih h hf|_=>intro h hf;simp[zF]at hf
theorem UG{id:Nat}{b:Code}: ∀{c:Code},zF c id=some b-> ∀i x,l6 i x b->l6 i x c:=by intro c;induction c with|seq x y Z8 XJ=>intro hf i z hz;simp only[zF]at hf;simp only[l6];split at hf;rename_i c0 hx;cases hf;exact .inl (Z8 hx i z hz);exact .inr (XJ hf i z hz)|block j c ih=>(intro hf i z hz;by_cases hl: ∃x,c= .loop x;obtain⟨x,rfl⟩:=hl;simp only[zF]at hf ih;simp only[l6]at ih |-;split at hf;cases hf;exact .inr hz;exact .inr (ih hf i z hz);rw[lE fun x e=>hl ⟨x,e⟩]at hf;have:=ih hf i z hz;cases c<;>first|exact absurd ⟨_,rfl⟩ hl|exact this)|cond o x y Z8 XJ=>intro hf i z hz;simp only[zF]at hf;simp only[l6];split at hf;rename_i c0 hx;cases hf;exact .inl (Z8 hx i z hz);exact .inr (XJ hf i z hz)|loop c ih=>intro hf i z hz;simp only[zF]at hf;simp only[l6];exact ih hf i z hz|_=>intro hf;simp[zF]at hf
structure Dc (P:Program) (G:GP):Prop where
 fn: ∀f fi,G.fn f=some fi-> ∃fn,P.funcs[f]? =some fn/\(fn.name== "runtime.NumGoroutine")=false/\fn.body=some fi.body/\fn.ntmps=fi.nt/\fn.results.toList=fi.results/\
  gy fi.nt fi.body=true/\(yC fi.body).Nodup
section
variable [xd] {P:Program} {w:World} {H:qp} {ι:yp} {Im:Nat->Prop}
theorem loop_ok{G:GP}{O:xi}(hm:P.follows .mixedOrders=true)(hG:yA P G)(hF:Dc P G)(hO:Sound P G O){f:FuncId}{id:Nat}{s s' :St}{ex:Ex}
  (hr:mM G O f id s=some (ex,s')):Iv P G f id s ex s' :=by
 intro fi c XF hc;obtain⟨fn,_,_,_,_,_,df,Ei⟩:=hF.fn f fi XF;have Sn: ∀{w:World}{ι:yp}{Im:Nat->Prop}{a:Act}{s s' :St}{ex:Ex},Inv w a s ι Im fi.nt->exec G O f c s=some (ex,s')->
   c.wp P (fun e a' w' =>e=ex.BD/\aE w s.heap ι Im fi.nt s' a' w') a w:=
  fun h hr=>Sf hm hG hO f fi XF Ei c (JK df hc) (UG hc) h hr
 unfold mM at hr;rw[XF]at hr;simp only[hc]at hr;split at hr;{rename_i s1 nH;split at hr;rotate_left;cases hr;(rename_i s2 El;obtain⟨jx,n,hn⟩:=hO.loop f id s2 ex s' hr fi c XF hc;refine⟨jx,n+1,fun w ι Im a h=>?_⟩;rw[rounds_succ];refine wp_mono (Sn h nH) fun e a' w'⟨he,ι1,iX,h1,e1⟩=>?_;subst he;obtain⟨Gd,h1,e2⟩:=tz (dh s1.env s1.heap (G.spec f id).freeze) h1;obtain⟨ι2,h2,e2,xV⟩:=IW (G.spec f id) h1 h.nx (e1.trans e2) El;have Sv: ∀(n:Nat){Q Q' :Exit->Act->World->Prop}{a:Act}{w:World},(∀ e a w,Q e a w->Q' e a w)->Code.rounds P c Q n a w->Code.rounds P c Q' n a w:=by intro n;induction n with|zero=>intro Q Q' a w _ h;exact h|succ n ih=>intro Q Q' a w hq h;rw[rounds_succ]at h |-;refine wp_mono h fun e a w he=>?_;cases e<;>first|exact ih hq he|exact hq _ _ _ he);exact Sv n (fun e a w ⟨q1,q2⟩=>⟨q1,(q2.Hb xV).from e2⟩) (hn _ _ _ _ h2)};rename_i i s1 nH;by_cases hi:i=id;rw[if_pos hi]at hr;obtain⟨BT,rfl⟩:=XM hr;refine⟨fun i h=>(by cases h),1,fun w ι Im a h=>?_⟩;rw[rounds_succ];refine wp_mono (Sn h nH) fun e a' w'⟨he,ι1,iX,h1,e1⟩=>?_;subst he;obtain⟨ι2,h2,e2⟩:=Wi (G.spec f id) h1 h.nx e1 BT;exact⟨by rw[<- hi];rfl,_,_,h2,e2⟩;rw[if_neg hi]at hr;obtain⟨BT,rfl⟩:=XM hr;refine⟨fun j h=>(by cases h;exact hi),1,fun w ι Im a h=>?_⟩;rw[rounds_succ];refine wp_mono (Sn h nH) fun e a' w'⟨he,ι1,iX,h1,e1⟩=>?_;subst he;obtain⟨ι2,h2,e2⟩:=Wi (G.spec f id) h1 h.nx e1 BT;exact⟨rfl,_,_,h2,e2⟩;rename_i s1 nH;obtain⟨BT,rfl⟩:=XM hr;refine⟨fun i h=>(by cases h),1,fun w ι Im a h=>?_⟩;rw[rounds_succ];refine wp_mono (Sn h nH) fun e a' w'⟨he,ι1,iX,h1,e1⟩=>?_;subst he;obtain⟨ι2,h2,e2⟩:=Wi (G.spec f id) h1 h.nx e1 BT;exact⟨rfl,_,_,h2,e2⟩;cases hr
theorem LG{ti:TI}{x r:AV}{v:Value}(hx:RA w H ι Im x v)(hr:QC ti x H=some r): ∃a,v= .pointer (some a):=by unfold QC at hr;split at hr;cases hx;exact⟨_,rfl⟩;cases hx;exact⟨_,rfl⟩;cases hx;exact⟨_,rfl⟩;(cases hx with|pv _ _ h=>cases h;exact⟨_,rfl⟩);cases hr
def Ap(tmps:Array Value):ResultVar->Sem Value
 | .tmp t=>pure (tmps.getD t undef)
 | .cell a t=>do loadVar t (<- asAddr (tmps.getD a undef))
theorem Rh(fn:Func)(tmps:Array Value):results fn tmps=(do
  let vs <-fn.results.mapM (Ap tmps)
  pure (if h:vs.size=1 then vs[0]else .tuple vs)):=by unfold results;rfl
theorem resOf_ok{G:GP}(hG:yA P G){a:Act}{s:St}{nt:Nat}(h:Inv w a s ι Im nt){rv:ResultVar}{x:AV}(hr:U6 G s rv=some x):
  ∃v,(Ap a.tmps rv).run P w= .ok v w/\RA w s.heap ι Im x v:=by cases rv with|tmp t=>simp only[U6,kG]at hr;subst hr;exact⟨_,by simp only[Ap,K?],h.env t⟩|cell b t=>simp only[U6]at hr;split at hr;rotate_left;cases hr;rename_i ti l8;obtain⟨ad,had⟩:=LG (h.env b) hr;obtain⟨u,h1,h2⟩:=B6 (hG t ti l8) h.heap (h.env b) hr;refine⟨u, ?_,h2⟩;rw[had]at h1;simp only[Instr.loadAt,Instr.sureAddr,pure_bind]at h1;simp only[Ap,had,asAddr,pure_bind];exact h1
theorem U5{G:GP}(hG:yA P G){a:Act}{s:St}{nt:Nat}(h:Inv w a s ι Im nt): ∀{rs:List ResultVar}{xs:List AV},ah G s rs=some xs->
  ∃vs:List Value,(rs.mapM (Ap a.tmps)).run P w= .ok vs w/\xs.length=vs.length/\ ∀(i:Nat) x v,xs[i]? =some x->vs[i]? =some v->RA w s.heap ι Im x v
 |[],xs,hr=>by simp only[ah,kG]at hr;subst hr;exact⟨[],z?,rfl,z?⟩
 |r::l,xs,hr=>by simp only[ah]at hr;split at hr;rotate_left;cases hr;rename_i v vs h1 h2;cases hr;obtain⟨u,q1,q2⟩:=resOf_ok hG h h1;obtain⟨us,q3,q4,q5⟩:=U5 hG h h2;refine⟨u::us, ?_,by simp[q4],fun i x v hx hv=>?_⟩;rw[q13];simp only[jR,q1,q3,md,K?];cases i with|zero=>simp at hx hv;subst hx;subst hv;exact q2|succ i=>simp at hx hv;exact q5 i x v hx hv
theorem Ri{G:GP}(hG:yA P G){fn:Func}{a:Act}{s:St}{nt:Nat}(h:Inv w a s ι Im nt){xs:List AV}(hr:ah G s fn.results.toList=some xs):
  ∃v,(results fn a.tmps).run P w= .ok v w/\RA w s.heap ι Im (Q5 xs) v:=by
 obtain⟨vs,h1,h2,h3⟩:=U5 hG h hr;rw[Rh,Array.mapM_eq_mapM_toList];have h1' :(Functor.map List.toArray (fn.results.toList.mapM (Ap a.tmps)):Sem (Array Value)).run P w= .ok vs.toArray w:=by rw[map_eq_pure_bind,jR,h1,md,K?]
 rw[jR,h1',md,K?];refine⟨_,rfl, ?_⟩;split
 ·rename_i hs;obtain⟨v,rfl⟩: ∃v,vs=[v]:=by
   cases vs with
   |nil=>simp at hs
   |cons v r=>cases r with
    |nil=>exact⟨v,rfl⟩
    |cons _ _=>simp at hs
  obtain⟨x,rfl⟩: ∃x,xs=[x]:=by
   cases xs with
   |nil=>simp at h2
   |cons v r=>cases r with
    |nil=>exact⟨v,rfl⟩
    |cons _ _=>simp at h2
  exact h3 0 x v rfl rfl
 rename_i hs;have:Q5 xs= .xR xs:=by unfold Q5;split;exfalso;apply hs;simpa using h2.symm;rfl
 rw[this];exact .xR xs vs h2 h3
theorem Bh: ∀{args:List AV}{vs:List Value}(k:Nat),args.length=vs.length->(∀(i:Nat) x v,args[i]? =some x->vs[i]? =some v->RA w H ι Im x v)->
  ∀t,(rA k args).get t= .undef\/ ∃i x v,t=k+i/\args[i]? =some x/\vs[i]? =some v/\(rA k args).get t=x
 |[],vs,k,_,_,t=> .inl rfl
 |x::r,[],k,h,_,t=>by simp at h
 |x::r,v::us,k,hl,h,t=>by simp only[rA,V!];split;rename_i e;exact .inr ⟨0,x,v,o?,rfl,rfl,rfl⟩;rcases Bh (args:=r) (vs:=us) (k+1) (by simpa using hl) (fun i x v h1 h2=>h (i+1) x v (by simpa using h1) (by simpa using h2)) t with g|⟨i,y,u,e,g1,g2,g3⟩;exact .inl g;exact .inr ⟨i+1,y,u,o?,by simpa using g1,by simpa using g2,g3⟩
theorem unz_ok{x:AV}{v:Value}(h:RA w H ι Im x v):RA w H ι Im (unz x) v:=by cases h with|iW a=>exact .pv _ _ (.sl 0 [] a.block a.off 0 (fun _=>undef) (fun h=>absurd rfl h) z? z? z? z? z? a.spot (fun h=>absurd rfl h))|undef v=>exact .undef v|pv p v h=>exact .pv p v h|ptr β o c hb hk=>exact .ptr β o c hb hk|uJ β xc i o b1 o1 b hb jy h=>exact .uJ β xc i o b1 o1 b hb jy h|row β xc off n v b ho hb hk jy h=>exact .row β xc off n v b ho hb hk jy h|tE c o b off vs Qx hc hf h=>exact .tE c o b off vs Qx hc hf h|map β es zW hb=>exact .map β es zW hb|QX f a b va vb VB Su ha hb=>exact .QX f a b va vb VB Su ha hb|agg c vs hl hf h=>exact .agg c vs hl hf h|xR c vs hl h=>exact .xR c vs hl h
theorem sub_evo{w0:World}{H0:qp}{ι0:yp}{Qr:Nat->Prop}{L:List Nat}{H' :qp}(hs:Zz H L H')(he:wU w0 H0 ι0 Qr w H ι Im){m:Nat}{r:List Nat}(hL:L=E? m++r)
  (hm: ∀β b,H0.get β=some b->β<m):wU w0 H0 ι0 Qr w H' (Zn ι L) Im where
 comp:=fun β b hb=>by (obtain⟨b',q1,q2⟩:=he.comp β b hb;have hl:L[β]? =some β:=by rw[hL];exact YQ m r (hm β b hb));(refine⟨b'.c9 (pos L),by rw[hs.look,hl];simp[q1], ?_⟩;have:Zn ι L β=ι β:=by simp[Zn,hl]);rw[this];exact J6 _ q2
 im:=he.im
 pU:=he.pU
 nQ:=fun γ x z hx hu=>by obtain⟨β,b0,h1,h2,rfl,h4⟩:=hs.inv (ι:=ι) hx;rw[qD.nW,h4]at hu;exact he.nQ β b0 z h2 hu
 kF:=he.kF
 size:=he.size
 io:=he.io
theorem DZ{w0:World}{H0:qp}{ι0:yp}{Qr:Nat->Prop}{a:Act}{s:St}{nt:Nat}(h:Inv w a s ι Im nt){x:AV}{u:Value}(hx:RA w s.heap ι Im x u)
  (he:wU w0 H0 ι0 Qr w s.heap ι Im) {m:Nat} (hm: ∀β b,H0.get β=some b->β<m) {sb:Bool} {r:AV} {H' :qp} (hr:finish m sb x s=some (r,H')):
  ∃ι' jT,zd w H' ι' jT/\wU w0 H0 ι0 Qr w H' ι' jT/\RA w H' ι' jT r u:=by
 have hinv:Inv w ⟨#[u],[]⟩ { s with env:=[(0,x)] } ι Im 0:=by refine⟨h.heap,fun t=>?_,h.nx,B! _,rfl⟩;cases t with|zero=>simpa[V!]using hx|succ t=>simp only[V!];rw[if_neg o?];exact .undef _
 have key: ∀{s1:St}{iX:Nat->Prop},Inv w ⟨#[u],[]⟩ s1 ι iX 0->wU w s.heap ι Im w s1.heap ι iX->(match s9 s1.heap (E? m) (unz (s1.env.get 0)).refs with
   |some (L,H)=>some ((unz (s1.env.get 0)).c9 (pos L),H)
   |none=>none)=some (r,H')-> ∃ι' jT,zd w H' ι' jT/\wU w0 H0 ι0 Qr w H' ι' jT/\RA w H' ι' jT r u:=by
  intro s1 iX h1 e1 hr;split at hr<;>cases hr;rename_i L Z6;obtain⟨hs,W9,rr,hL⟩:=oH q0w Z6;refine⟨Zn ι L,iX,hs.hinv h1.heap,sub_evo hs (he.trans e1) hL hm, ?_⟩;have hv:=unz_ok (h1.env 0);simp only[R_]at hv;exact Ze _ hv fun β hβ b hb=>hs.Bv (W9 β hβ) b hb
 unfold finish at hr;cases sb with|true=>simp only[if_true]at hr;exact key hinv (W! _ _ _ _) hr|false=>simp only[wA,if_false]at hr;obtain⟨iX,h1,e1⟩:=tz x.rows hinv;exact key h1 e1 hr
theorem runFn_ok{G:GP}{O:xi}(hm:P.follows .mixedOrders=true)(hG:yA P G)(hF:Dc P G)(hO:Sound P G O){f:FuncId}{args:List AV}{H:qp}{r:AV}{H' :qp}
  (hr:lY G O f args H=some (r,H')):enters P f/\lh P f args H r H' :=by
 unfold lY at hr;split at hr;cases hr;rename_i fi XF;obtain⟨fn,g1,g2,g3,g4,g5,df,Ei⟩:=hF.fn f fi XF;refine⟨⟨fn,g1,g2,by rw[g3];rfl⟩,fun w ι Im vs hi hl hR=>?_⟩;split at hr;rotate_left;cases hr;rename_i hk;have xQ: ∀β b,H.get β=some b->β<H.length:=fun β b hb=>by have:=(sB H 0 hk hb).2;omega
 have hinv:Inv w { tmps:=(⟨vs⟩:Array Value)++y_ (fn.ntmps-(⟨vs⟩:Array Value).size) undef,defers:=[] } ⟨rA 0 args,H,H.length⟩ ι Im fi.nt:=by refine⟨hi,fun t=>?_,xQ, ?_,rfl⟩;simp only;rcases Bh 0 hl hR t with h|⟨i,x,v,e,h1,h2,h3⟩;rw[h];exact .undef _;(rw[h3];have:t=i:=o?;subst this;have ht:t<vs.length:=(qF h2).1;have:(((⟨vs⟩:Array Value)++y_ (fn.ntmps-(⟨vs⟩:Array Value).size) undef).getD t undef)=v:=by rw[Array.getD_eq_getD_getElem?,Array.getElem?_append_left (by simpa using ht)];simp only[List.getElem?_toArray,h2,c!]);rw[this];exact hR t x v h1 h2;simp only[Array.size_append,Array.size_replicate];omega
 have hwp: ∀{s s' :St}{ex:Ex}{w:World}{ι:yp}{Im:Nat->Prop}{a:Act},Inv w a s ι Im fi.nt->exec G O f fi.body s=some (ex,s')->
   fi.body.wp P (fun e a' w' =>e=ex.BD/\aE w s.heap ι Im fi.nt s' a' w') a w:=
  fun h hr=>Sf hm hG hO f fi XF Ei fi.body df (fun _ _ h=>h) h hr
 have close: ∀{s:St}{ex:Ex},exec G O f fi.body ⟨rA 0 args,H,H.length⟩=some (ex,s)->(ex= .normal\/ex= .ret)->(match ah G (pL (G.cmd f 999999) s) fi.results with
   |some vs=>finish H.length (G.sb f) (Q5 vs) (pL (G.cmd f 999999) s)
   |none=>none)=some (r,H')->Calls P f ⟨vs⟩ w fun e w' => ∃v ι' jT,e= .returned v/\zd w' H' ι' jT/\wU w H ι Im w' H' ι' jT/\RA w' H' ι' jT r v:=by
  intro s ex hs hex hr;split at hr;rotate_left
  ·cases hr
  rename_i xs hxs;refine calls_of_wp g1 g3 (wp_mono (hwp hinv hs) fun e a' w'⟨he,aA⟩=>?_);obtain⟨ι1,iX,h1,e1⟩:=aA.post (G.cmd f 999999);subst he;rw[<- g5]at hxs;obtain⟨v,q1,q2⟩:=Ri hG h1 hxs;obtain⟨ι2,Gd,k1,k2,k3⟩:=DZ h1 q2 e1 xQ hr;rcases hex with rfl|rfl
  ·exact⟨h1.defers,v,q1,v,ι2,Gd,rfl,k1,k2,k3⟩
  exact⟨h1.defers,v,q1,v,ι2,Gd,rfl,k1,k2,k3⟩
 split at hr;cases hr;(rename_i ex s jx hs;refine close hs ?_ hr;cases ex with|normal=>exact .inl rfl|ret=>exact .inr rfl|exit i=>exact absurd rfl (jx i));cases hr
def Qa[xd](P:Program)(S:pd):Prop:= ∀f g,S.call f=some g-> ∀args H r H',g args H=some (r,H')->enters P f/\lh P f args H r H'
theorem q0i[xd]{G:GP}{S:pd}(hm:P.follows .mixedOrders=true)(hG:yA P G)(hF:Dc P G)(hS:Qa P S): ∀n,Sound P G (Ww G S n)
 |0=>⟨⟨fun _ _ _ _ _ h=>by simp[Ww]at h⟩,fun _ _ _ _ _ h=>by simp[Ww]at h⟩
 |n+1=>by have ih:=q0i hm hG hF hS n;refine⟨⟨fun f args H r H' h=>?_⟩,fun f id s ex s' h=>?_⟩;simp only[Ww]at h;split at h;rename_i g hg;exact hS f g hg args H r H' h;exact runFn_ok hm hG hF ih h;simp only[Ww]at h;exact loop_ok hm hG hF ih h
end
def Ends(p:Nat->Prop):Prop:= ∃n,∀ m,n<=m->p m
theorem Ends.and{p q:Nat->Prop}(h1:Ends p)(h2:Ends q):Ends fun m=>p m/\q m:=
 let⟨a,ha⟩:=h1
 let⟨b,hb⟩:=h2
 ⟨max a b,fun m hm=>⟨ha m o?,hb m o?⟩⟩
theorem Ends.mono{p q:Nat->Prop}(h: ∀m,p m->q m)(h1:Ends p):Ends q:=
 let⟨a,ha⟩:=h1
 ⟨a,fun m hm=>h m (ha m hm)⟩
theorem Ends.of{p:Prop}(h:p):Ends fun _=>p:=⟨0,fun _ _=>h⟩
theorem Ends.now{p:Nat->Prop}(h:Ends p): ∃n,p n:=let⟨a,ha⟩:=h;⟨a,ha a (jv _)⟩
open Classical in
noncomputable def SM {α:Type} (F:Nat->Option α):Option α:=
 if h: ∃r,Ends fun m=>F m=some r then some h.choose else none
theorem bO{α:Type}{F:Nat->Option α}{r:α}:SM F=some r↔Ends fun m=>F m=some r:=by unfold SM;constructor;intro h;split at h;rename_i hx;cases h;exact hx.choose_spec;cases h;intro h;have hx: ∃r,Ends fun m=>F m=some r:=⟨r,h⟩;rw[dif_pos hx];obtain⟨n,h1,h2⟩:=(h.and hx.choose_spec).now;rw[h1]at h2;exact h2.symm
noncomputable def omega (G:GP) (S:pd):xi:=
 ⟨fun f args H=>SM fun n=>(Ww G S n).call f args H,fun f id s=>SM fun n=>(Ww G S n).loop f id s⟩
section
variable {G:GP} {S:pd}
variable {O:xi} {F:Nat->xi}
structure dS (O:xi) (F:Nat->xi):Prop where
 call: ∀f args H r,O.call f args H=some r->Ends fun m=>(F m).call f args H=some r
 loop: ∀f id s r,O.loop f id s=some r->Ends fun m=>(F m).loop f id s=some r
theorem KF(hA:dS O F){f:FuncId}{args:List AV}{H:qp}{nx:Nat}{e:mA}(h:eM O f args H nx=some e):Ends fun m=>eM (F m) f args H nx=some e:=by unfold eM at h |-;split at h;cases h;rename_i L H0 hs;split at h;cases h;rename_i v H' hc;refine(hA.call _ _ _ _ hc).mono fun m hm=>?_;rw[hm];exact h
theorem Be(hA:dS O F){o:Op}{E:yo}{H:qp}{nx:Nat}{e:mA}(h:mB G O o E H nx=some e):Ends fun m=>mB G (F m) o E H nx=some e:=by cases o with|call c=>(obtain⟨callee,args,ch⟩:=c;cases callee with|value fo=>unfold mB at h |-;simp only at h |-;split at h;exact KF hA h;exact KF hA h;cases h|_=>exact Ends.of h)|makeFunc fn a b=>cases fn<;>exact Ends.of h|makeMap t r=>cases r<;>exact Ends.of h|_=>exact Ends.of h
theorem Rz(hA:dS O F){o:Oper}{s s' :St}(h:Xf G O o s=some s'):Ends fun m=>Xf G (F m) o s=some s' :=by unfold Xf at h |-;split at h;rename_i v ws nx ZQ;refine(Be hA ZQ).mono fun m hm=>?_;rw[hm];exact h;cases h
theorem XA(hA:dS O F)(all:List Oper): ∀{l:List Oper}{s s' :St},Xz G O all l s=some s' ->Ends fun m=>Xz G (F m) all l s=some s'
 |[],s,s',h=>Ends.of h
 |o::r,s,s',h=>by simp only[Xz]at h |-;split at h;split at h;rename_i s1 nH;refine((Rz hA nH).and (XA hA all h)).mono fun m⟨h1,h2⟩=>?_;simp only[h1,h2];cases h;exact XA hA all h;cases h
theorem QV(hA:dS O F)(all:List Oper){tm:Bool}: ∀{l:List Oper}{i:Nat}{s s' :St}{log:List (Nat×List Nat×List Nat)},dV G O all tm i l s log=some s' ->Ends fun m=>dV G (F m) all tm i l s log=some s'
 |[],i,s,s',log,h=>Ends.of h
 |o::r,i,s,s',log,h=>by simp only[dV]at h |-;split at h;split at h;rename_i v ws nx ZQ;refine((Be hA ZQ).and (QV hA all h)).mono fun m⟨h1,h2⟩=>?_;rw[h1];exact h2;cases h;exact QV hA all h;cases h
theorem Qh(hA:dS O F){f:FuncId}: ∀{c:Code}{s:St}{r:Ex×St},exec G O f c s=some r->Ends fun m=>exec G (F m) f c s=some r:=by
 intro c;induction c with
  |region id ops d=>intro s r h;cases d with|false=>simp only[exec]at h |-;split at h<;>cases h;rename_i s1 nH;refine(XA hA _ nH).mono fun m hm=>?_;rw[hm]|true=>simp only[exec]at h |-;split at h<;>cases h;rename_i s1 nH;refine(QV hA _ nH).mono fun m hm=>?_;rw[hm]
  |seq x y Z8 XJ=>intro s r h;simp only[exec]at h |-;split at h;rename_i s1 nH;refine((Z8 nH).and (XJ h)).mono fun m⟨h1,h2⟩=>?_;rw[h1];exact h2;rename_i s1 nH;refine(Z8 nH).mono fun m h1=>?_;rw[h1];exact h;rename_i i s1 nH;refine(Z8 nH).mono fun m h1=>?_;rw[h1];exact h;cases h
  |cond o x y Z8 XJ=>intro s r h;simp only[exec]at h |-;split at h;(rename_i b hb;cases b with|true=>exact Z8 h|false=>exact XJ h);cases h
  |block id c ih=>
   intro s r h;by_cases hl: ∃b,c= .loop b;obtain⟨b,rfl⟩:=hl;simp only[exec]at h |-;split at h;exact hA.loop _ _ _ _ h;cases h
   have hex: ∀O,exec G O f (.block id c) s=match exec G O f c s with
    |some (.exit i,s')=>if i=id then some (.normal,s')else some (.exit i,s')
    |some (.normal,s')=>some (.normal,s')
    |some (.ret,s')=>some (.ret,s')
    |none=>none:=by
    intro O;cases c<;>first|rfl|exact absurd ⟨_,rfl⟩ hl
   simp only[hex]at h |-;split at h;rename_i i s1 nH;refine(ih nH).mono fun m h1=>?_;rw[h1];exact h;rename_i s1 nH;refine(ih nH).mono fun m h1=>?_;rw[h1];exact h;rename_i s1 nH;refine(ih nH).mono fun m h1=>?_;rw[h1];exact h;cases h
  |skip=>intro s r h;exact Ends.of h
  |exit id=>intro s r h;exact Ends.of h
  |ret=>intro s r h;exact Ends.of h
  |_=>intro s r h;simp[exec]at h
theorem ez(hA:dS O F){f:FuncId}{id:Nat}{s:St}{r:Ex×St}(h:mM G O f id s=some r):Ends fun m=>mM G (F m) f id s=some r:=by unfold mM at h |-;split at h;cases h;rename_i fi XF;split at h;cases h;rename_i c hc;split at h;rename_i s1 nH;split at h;rename_i s2 El;refine((Qh hA nH).and (hA.loop _ _ _ _ h)).mono fun m⟨h1,h2⟩=>?_;simp only[h1,El,h2];cases h;rename_i i s1 nH;refine(Qh hA nH).mono fun m h1=>?_;simp only[h1];exact h;rename_i s1 nH;refine(Qh hA nH).mono fun m h1=>?_;simp only[h1];exact h;cases h
theorem Zh(hA:dS O F){f:FuncId}{args:List AV}{H:qp}{r:AV×qp}(h:lY G O f args H=some r):Ends fun m=>lY G (F m) f args H=some r:=by unfold lY at h |-;split at h;cases h;rename_i fi XF;split at h;rotate_left;cases h;rename_i hk;simp only[hk,if_true];split at h;cases h;(rename_i ex s jx hs;refine(Qh hA hs).mono fun m h1=>?_;rw[h1];cases ex with|exit i=>exact absurd rfl (jx i)|_=>exact h);cases h
theorem X2:dS (omega G S) (Ww G S):=⟨fun _ _ _ _ h=>bO.1 h,fun _ _ _ _ h=>bO.1 h⟩
theorem Wx: ∀n,dS (Ww G S n) fun _=>Ww G S (n+1)
 |0=>⟨fun _ _ _ _ h=>by simp[Ww]at h,fun _ _ _ _ h=>by simp[Ww]at h⟩
 |n+1=>by have ih:=Wx n;refine⟨fun f args H r h=>?_,fun f id s r h=>?_⟩;rw[Ww]at h |-;simp only at h |-;split at h;exact Ends.of h;exact Zh ih h;rw[Ww]at h |-;simp only at h |-;exact ez ih h
theorem Nx{n:Nat}{f:FuncId}{args:List AV}{H:qp}{r:AV×qp}(h:(Ww G S n).call f args H=some r):(omega G S).call f args H=some r:=by refine bO.2 ⟨n,fun m hm=>?_⟩;obtain⟨k,rfl⟩:=F_ hm;induction k with|zero=>exact h|succ k ih=>obtain⟨_,h2⟩:=((Wx (n+k)).call f args H r (ih o?)).now;exact h2
theorem q0c{f:FuncId}{args:List AV}{H:qp}{r:AV×qp}(hs:S.call f=none)(h:lY G (omega G S) f args H=some r):(omega G S).call f args H=some r:=by refine bO.2 ?_;obtain⟨n,hn⟩:=Zh X2 h;refine⟨n+1,fun m hm=>?_⟩;obtain⟨k,rfl⟩: ∃k,m=k+1:=⟨m-1,o?⟩;simp only[Ww,hs];exact hn k o?
theorem TE{f:FuncId}{id:Nat}{s:St}{r:Ex×St}(h:mM G (omega G S) f id s=some r):(omega G S).loop f id s=some r:=by refine bO.2 ?_;obtain⟨n,hn⟩:=ez X2 h;refine⟨n+1,fun m hm=>?_⟩;obtain⟨k,rfl⟩: ∃k,m=k+1:=⟨m-1,o?⟩;simp only[Ww];exact hn k o?
theorem q0d[xd]{P:Program}(hm:P.follows .mixedOrders=true)(hG:yA P G)(hF:Dc P G)(hS:Qa P S){f:FuncId}{args:List AV}{H:qp}{r:AV}{H' :qp}
  (h:(omega G S).call f args H=some (r,H')):lh P f args H r H' :=by obtain⟨n,hn⟩:=(bO.1 h).now;exact((q0i hm hG hF hS n).call f args H r H' hn).2
theorem q0h{n:Nat}{f:FuncId}{id:Nat}{s:St}{r:Ex×St}(h:(Ww G S n).loop f id s=some r):(omega G S).loop f id s=some r:=by refine bO.2 ⟨n,fun m hm=>?_⟩;obtain⟨k,rfl⟩:=F_ hm;induction k with|zero=>exact h|succ k ih=>obtain⟨_,h2⟩:=((Wx (n+k)).loop f id s r (ih o?)).now;exact h2
theorem YJ(n:Nat):dS (Ww G S n) fun _=>omega G S:=
 ⟨fun _ _ _ _ h=>Ends.of (Nx h),fun _ _ _ _ h=>Ends.of (q0h h)⟩
theorem TC(f:FuncId)(id:Nat)(s:St):(omega G S).loop f id s=mM G (omega G S) f id s:=by cases h:mM G (omega G S) f id s with|some r=>exact TE h|none=>cases h2:(omega G S).loop f id s with|none=>rfl|some r=>obtain⟨n,hn⟩:=bO.1 h2;have h3:=hn (n+1) o?;simp only[Ww]at h3;obtain⟨_,h4⟩:=(ez (YJ n) h3).now;rw[h]at h4;cases h4
theorem TB{f:FuncId}(hs:S.call f=none)(args:List AV)(H:qp):(omega G S).call f args H=lY G (omega G S) f args H:=by cases h:lY G (omega G S) f args H with|some r=>exact q0c hs h|none=>cases h2:(omega G S).call f args H with|none=>rfl|some r=>obtain⟨n,hn⟩:=bO.1 h2;have h3:=hn (n+1) o?;simp only[Ww,hs]at h3;obtain⟨_,h4⟩:=(Zh (YJ n) h3).now;rw[h]at h4;cases h4
end
end Go.Gm
namespace Go.Gm
open Go
def fnOf(P:Program)(f:FuncId):Option FI:=
 match P.funcs[f]? with
 |some fn=>match fn.body with
  |some b=>if fn.name≠ "runtime.NumGoroutine" /\gy fn.ntmps b=true/\(yC b).Nodup then some ⟨fn.ntmps,fn.results.toList,b⟩else none
  |none=>none
 |none=>none
theorem fnOf_ok{P:Program}{f:FuncId}{fi:FI}(h:fnOf P f=some fi): ∃fn,P.funcs[f]? =some fn/\(fn.name== "runtime.NumGoroutine")=false/\fn.body=some fi.body/\fn.ntmps=fi.nt/\
  fn.results.toList=fi.results/\gy fi.nt fi.body=true/\(yC fi.body).Nodup:=by
 unfold fnOf at h;split at h<;>try cases h
 rename_i fn hfn;split at h<;>try cases h
 rename_i b hb;split at h<;>try cases h
 rename_i hc;exact⟨fn,hfn,by simpa using hc.1,hb,rfl,rfl,hc.2.1,hc.2.2⟩
def gpOf(P:Program)(spec:FuncId->Nat->pA)(owned sb:FuncId->Bool)(pre:FuncId->Nat->List Nat)(Gg Et:TypeId->Bool)(cmd:FuncId->Nat->List Da):GP:=⟨tiOf P,fnOf P,spec,owned,sb,pre,Gg,Et,cmd⟩
theorem OJ{P:Program}{spec:FuncId->Nat->pA}{owned sb:FuncId->Bool}{pre:FuncId->Nat->List Nat}{Gg Et:TypeId->Bool}{cmd:FuncId->Nat->List Da}:yA P (gpOf P spec owned sb pre Gg Et cmd):=fun _ _ h=>tiOf_ok h
theorem gp_fns{P:Program}{spec:FuncId->Nat->pA}{owned sb:FuncId->Bool}{pre:FuncId->Nat->List Nat}{Gg Et:TypeId->Bool}{cmd:FuncId->Nat->List Da}:Dc P (gpOf P spec owned sb pre Gg Et cmd):=⟨fun _ _ h=>fnOf_ok h⟩
def YI(w:World)(b:Nat):Prop:=b<w.heap.size
theorem old_inv[xd](w:World)(ι:yp)(hg:xd.ok w/\ ∀b,xd.on b->b<w.heap.size):zd w [] ι (YI w) where
 BM:=hg.1
 Vx:=hg.2
 rk:=fun _ _ h=>by cases h
 inj:=fun _ _ _ _ _ h=>by cases h
 im:=fun _ h=>h
 Vd:=fun _ _ _ h=>by cases h
def Df(w:World)(c:List PV)(cs:List Value):Prop:=
 c.length=cs.length/\(∀ p∈c,p.kP=true)/\ ∀(i:Nat) p v,c[i]? =some p->cs[i]? =some v->RP w (YI w) p v
theorem Df.append{w:World}{c c' :List PV}{cs cs' :List Value}(h:Df w c cs)(h' :Df w c' cs'):Df w (c++c') (cs++cs'):=by obtain⟨a1,a2,a3⟩:=h;obtain⟨b1,b2,b3⟩:=h';refine⟨by simp[a1,b1],fun p hp=>?_,fun i p v h1 h2=>?_⟩;rcases m?.1 hp with hp|hp;exact a2 p hp;exact b2 p hp;by_cases hi:i<c.length;rw[p? hi]at h1;rw[p? (a1 ▸ hi)]at h2;exact a3 i p v h1 h2;rw[J? o?]at h1;rw[J? o?]at h2;exact b3 _ p v h1 (a1 ▸ h2)
theorem Df.one{w:World}{p:PV}{v:Value}(hf:p.kP=true)(h:RP w (YI w) p v):Df w [p] [v]:=by refine⟨rfl,by simpa using hf,fun i q u h1 h2=>?_⟩;cases i with|zero=>simp at h1 h2;subst h1;subst h2;exact h|succ i=>simp at h1
theorem Df.nil{w:World}:Df w [] []:=⟨rfl,z?,z?⟩
def jU{α:Type}(P:Program)(t:TypeId)(e:α->List PV)(ok:α->Prop)(n:Nat):Prop:=
 ∀(H:Type)(enc:TypeId×Value->H)(w:World)(base:Nat)(spare:Nat->Bool)(held:Bool)(fuel:Nat)(cs:List Value)(x:DataW H×List MemPlace),fuel<=n->
  DataW.trod enc P w base spare held fuel t cs=some x-> ∃a:α,ok a/\(e a).length=P.cellsOf t/\Df w (e a) cs
section
variable {P:Program}
theorem jU.int{t:TypeId}{k:IntKind}(ht:P.underlying t=some (.int k))(hc:P.cellsOf t=1)(n:Nat):jU P t (fun x:Int=>[PV.int k x]) (fun x=>(Lit.int k x).wf=true) n:=by intro H enc w base spare held fuel cs x _ h;obtain⟨a,rfl,_,hw⟩:=DataW.trod_int ht h;exact⟨a,hw,by simp[hc],.one rfl (.int k a)⟩
theorem jU.bool{t:TypeId}(ht:P.underlying t=some .bool)(hc:P.cellsOf t=1)(n:Nat):jU P t (fun x:Bool=>[PV.bool x]) (fun _=>True) n:=by intro H enc w base spare held fuel cs x _ h;obtain⟨a,rfl,_⟩:=DataW.trod_bool ht h;exact⟨a,trivial,by simp[hc],.one rfl (.bool a)⟩
theorem jU.str{t:TypeId}(ht:P.underlying t=some .string)(hc:P.cellsOf t=1)(n:Nat):jU P t (fun x:List UInt8=>[PV.str x]) (fun x=>x.length<=maxLen) n:=by intro H enc w base spare held fuel cs x _ h;obtain⟨a,rfl,_,hl⟩:=DataW.trod_string ht h;exact⟨a.data.toList,by simpa using hl,by simp[hc],.one rfl (.str _)⟩
theorem jU.map{α β:Type}{t:TypeId}{e:α->List PV}{ok:α->Prop}{e' :β->List PV}{ok' :β->Prop}{n:Nat}(h:jU P t e ok n)(f:α->β)
  (hf: ∀a,ok a->ok' (f a)/\e' (f a)=e a):jU P t e' ok' n:=by intro H enc w base spare held fuel cs x hn hx;obtain⟨a,h1,h2,h3⟩:=h H enc w base spare held fuel cs x hn hx;obtain⟨g1,g2⟩:=hf a h1;exact⟨f a,g1,by rw[g2];exact h2,by rw[g2];exact h3⟩
theorem jU.mono{α:Type}{t:TypeId}{e:α->List PV}{ok:α->Prop}{n m:Nat}(h:jU P t e ok n)(hm:m<=n):jU P t e ok m:=
 fun H enc w base spare held fuel cs x hn hx=>h H enc w base spare held fuel cs x (n! hn hm) hx
def slP(qt:Bool)(sz:Nat)(es:List (List PV)):PV:= .sl (qt&&es.isEmpty) (zT sz es) es
theorem Tq{α:Type}{f:Nat->Option α}: ∀{n:Nat}{l:List α},(E? n).mapM f=some l->l.length=n/\ ∀i,i<n->f i=l[i]? :=by
 intro n l h;have key: ∀(k:Nat)(m:Nat)(l:List α),(q1p k m).mapM f=some l->l.length=m/\ ∀i,i<m->f (k+i)=l[i]? :=by intro k m;induction m generalizing k with|zero=>intro l h;simp at h;subst h;exact⟨rfl,fun i hi=>o?⟩|succ m ih=>intro l h;rw[q0u,q13]at h;simp only[zJ,R!,Option.pure_def,kG]at h;obtain⟨a,ha,r,hr,rfl⟩:=h;obtain⟨h1,h2⟩:=ih (k+1) r hr;refine⟨by simp[h1],fun i hi=>?_⟩;cases i with|zero=>simpa using ha|succ i=>have:=h2 i o?;rw[show k+(i+1)=k+1+i from o?,this];simp
 have:=key 0 n l (by rwa[<- Y']);simpa using this
theorem XB{w:World}{base:Nat}{a:Addr}{n:Nat}{cs:List Value}(h:w.cells? base a n=some cs):cs.length=n/\ ∀i,i<n->w.cell? (a.add i)=cs[i]? :=by unfold World.cells? at h;split at h;exact Tq h;cases h
theorem cell_lt{w:World}{a:Addr}{v:Value}(h:w.cell? a=some v):a.block<w.heap.size/\a.spot=none:=by unfold World.cell? at h;split at h;rename_i c t f hb;refine⟨?_, ?_⟩;rw[H!]at hb;exact hb.1;split at h;cases h;(rename_i hs;cases SA:a.spot with|none=>rfl|some s=>simp[SA]at hs);cases h
theorem Bs{α β:Type}{p:Nat->α->β->Prop}: ∀(l:List β),(∀ i b,l[i]? =some b-> ∃a,p i a b)-> ∃r:List α,r.length=l.length/\ ∀(i:Nat) a b,r[i]? =some a->l[i]? =some b->p i a b:=by intro l;induction l generalizing p with|nil=>intro _;exact⟨[],rfl,z?⟩|cons b l ih=>intro h;obtain⟨a,ha⟩:=h 0 b rfl;obtain⟨r,h1,h2⟩:=ih (p:=fun i=>p (i+1)) (fun i b' hb=>h (i+1) b' (by simpa using hb));refine⟨a::r,by simp[h1],fun i x y hx hy=>?_⟩;cases i with|zero=>simp at hx hy;subst hx;subst hy;exact ha|succ i=>exact h2 i x y (by simpa using hx) (by simpa using hy)
theorem jU.slice{α:Type}{t el:TypeId}{sz:Nat}{e:α->List PV}{ok:α->Prop}{n:Nat}(ht:P.underlying t=some (.slice el))(hc:P.cellsOf t=1)(mq:P.cellsOf el=sz)(pT:0<sz)
  (h:jU P el e ok n):jU P t (fun x:Bool×List α=>[slP x.1 sz (x.2.map e)]) (fun x=>x.2.length<=maxLen/\ ∀a∈x.2,ok a) (n+1):=by
 intro H enc w base spare held fuel cs x hn hx;rcases DataW.trod_slice ht hx with ⟨rfl,_⟩|⟨a,len,cap,elems,rest,m,rfl,rfl,_,hb,hlc,hcm,MG,pR,_,_⟩;exact⟨(true,[]),⟨z?,z?⟩,by simp[hc],.one rfl (.aO 0)⟩
 rw[mq]at pR;obtain⟨r,hr1,hr2⟩:=Bs (p:=fun i(y:α×List Value)(_:DataW H×List MemPlace)=>w.cells? base (a.add (i*sz)) sz=some y.2/\ok y.1/\(e y.1).length=sz/\Df w (e y.1) y.2) elems (fun i b hib=>by
  have hi:i<len:=MG ▸ (qF hib).1
  have g:=pR i hi
  rw[hib,R!]at g
  obtain⟨cs,g1,g2⟩:=g
  obtain⟨y,k1,k2,k3⟩:=h H enc w base spare held m cs b o? g2
  exact⟨(y,cs),g1,k1,by rw[<- mq];exact k2,k3⟩)
 have hr3: ∀(i:Nat) y,r[i]? =some y->w.cells? base (a.add (i*sz)) sz=some y.2/\ok y.1/\(e y.1).length=sz/\Df w (e y.1) y.2:=by intro i y hy;have hi:i<elems.length:=hr1 ▸ (qF hy).1;exact hr2 i y elems[i] hy (by simp[hi])
 have Sy:r.length=len:=by rw[hr1,MG]
 have T6:r≠[]->a.block<w.heap.size/\a.spot=none:=by intro jx;obtain⟨y,r',rfl⟩:=List.exists_cons_of_ne_nil jx;obtain⟨g1,_⟩:=hr3 0 y rfl;obtain⟨c1,c2⟩:=XB g1;have:=c2 0 pT;rw[show a.add (0*sz)=a from by simp[Addr.add],show a.add 0=a from by simp[Addr.add]]at this;have xQ:0<y.2.length:=o?;rw[wx xQ]at this;exact cell_lt this
 refine⟨(false,r.map (·.1)),⟨by simp[Sy];omega,fun z hz=>?_⟩,by simp[hc], ?_⟩;obtain⟨y,hy,rfl⟩:=N?.1 hz;obtain⟨i,hi⟩:=kh hy;exact(hr3 i y hi).2.1;refine .one rfl ?_;simp only[slP,Bool.false_and,List.map_map];show RP _ _ (FA false sz _) _;obtain⟨ab,ao,Dw⟩:=a;have hlen:(r.map ((fun x=>e x) ∘ fun x=>x.1)).length=len:=by simp[Sy]
 rw[<- hlen];have hmap: ∀(i:Nat) l,(r.map ((fun x=>e x) ∘ fun x=>x.1))[i]? =some l-> ∃y,r[i]? =some y/\l=e y.1:=by intro i l hl;simp only[X?,yS,Function.comp]at hl;obtain⟨y,h1,h2⟩:=hl;exact⟨y,h1,h2.symm⟩
 have W3: ∀(i:Nat) y,r[i]? =some y-> ∀j,j<sz->w.cell? ⟨ab,ao+(i*sz+j),none⟩=y.2[j]? :=by intro i y hy j hj;obtain⟨g1,_⟩:=hr3 i y hy;obtain⟨c1,c2⟩:=XB g1;have SA:=(T6 (fun h0=>by rw[h0]at hy;simp at hy)).2;simp only at SA;subst SA;rw[<- c2 j hj];congr 1;unfold Addr.add;by_cases h1:i*sz=0<;>by_cases h2:j=0<;>simp[h1,h2]<;>omega
 refine RP.mk ?_;refine .sl sz _ ab ao cap (fun k=>(r[k / sz]?.bind fun y=>y.2[k % sz]?).getD undef) (fun jx=>(T6 (fun h0=>jx (by rw[h0];rfl))).1) (by rw[List.length_map,Sy];exact hlc) (fun l hl=>?_) (fun i hi=>?_) (fun i l j p h1 h2=>?_) (fun i l j p h1 h2=>?_) Dw
  (fun jx=>(T6 (fun h0=>jx (by rw[h0];rfl))).2)
 obtain⟨i,hi⟩:=kh hl;obtain⟨y,hy,rfl⟩:=hmap i l hi;exact(hr3 i y hy).2.2.1;rw[hlen]at hi;have hq:i / sz<len:=Nat.div_lt_of_lt_mul (by rw[X!];exact hi);have hm:=Nat.mod_lt i pT;have Ek:i / sz<r.length:=o?;have hy:r[i / sz]? =some r[i / sz]:=wx Ek;have g:=W3 (i / sz) _ hy (i % sz) hm;rw[show i / sz*sz+i % sz=i from by rw[X!];exact Nat.div_add_mod i sz]at g;rw[g,hy];simp only[qS];obtain⟨g1,_,g3,g4⟩:=hr3 _ _ hy;obtain⟨c1,_⟩:=XB g1;have:i % sz<(r[i / sz]).2.length:=o?;rw[wx this];rfl;obtain⟨y,hy,rfl⟩:=hmap i l h1;exact(hr3 i y hy).2.2.2.2.1 p (z7 h2);obtain⟨y,hy,rfl⟩:=hmap i l h1;obtain⟨g1,_,g3,g4,g5,g6⟩:=hr3 i y hy;have hj:j<sz:=g3 ▸ (qF h2).1;have e1:(i*sz+j) / sz=i:=by rw[X!,Nat.mul_add_div pT,Nat.div_eq_of_lt hj,D?]
 have e2:(i*sz+j) % sz=j:=by rw[X!,Nat.mul_add_mod,Nat.mod_eq_of_lt hj]
 have Gj:j<y.2.length:=by rw[<- g4];omega
 simp only[e1,e2,hy,qS,wx Gj,c!];exact g6 j p _ h2 (wx Gj)
def rq{α:Type}(P:Program)(fs:List Field)(e:α->List PV)(ok:α->Prop)(n off:Nat):Prop:=
 ∀(H:Type)(enc:TypeId×Value->H)(w:World)(base:Nat)(spare:Nat->Bool)(held:Bool)(fuel:Nat)(cs:List Value),fuel<=n->off<=cs.length->
  (∀ f∈fs,∃ x,DataW.trod enc P w base spare held fuel f.type ((cs.drop f.offset).take (P.cellsOf f.type))=some x)->
  ∃(a:α)(m:Nat),ok a/\(e a).length=m/\off+m<=cs.length/\Df w (e a) ((cs.drop off).take m)
theorem rq.nil(n off:Nat):rq P [] (fun _:Unit=>[]) (fun _=>True) n off:=by intro H enc w base spare held fuel cs _ ho _;exact⟨(),0,trivial,rfl,by simpa using ho,by simpa using Df.nil⟩
theorem rq.cons{α β:Type}{f:Field}{fs:List Field}{e1:α->List PV}{ok1:α->Prop}{e2:β->List PV}{ok2:β->Prop}{n off c:Nat}(ho:f.offset=off)(hc:P.cellsOf f.type=c)
  (h1:jU P f.type e1 ok1 n) (h2:rq P fs e2 ok2 n (off+c)):rq P (f::fs) (fun x:α×β=>e1 x.1++e2 x.2) (fun x=>ok1 x.1/\ok2 x.2) n off:=by intro H enc w base spare held fuel cs hn oZ OM;obtain⟨x,hx⟩:=OM f z?;rw[hc,ho]at hx;obtain⟨a,a1,a2,a3⟩:=h1 H enc w base spare held fuel _ x hn hx;rw[hc]at a2;have hl:=a3.1;rw[a2,List.length_take,List.length_drop]at hl;have sw:off+c<=cs.length:=o?;obtain⟨b,m,b1,b2,b3,b4⟩:=h2 H enc w base spare held fuel cs hn sw (fun f' UZ=>OM f' (by simp[UZ]));refine⟨(a,b),c+m,⟨a1,b1⟩,by simp[a2,b2],o?, ?_⟩;have:=a3.append b4;rwa[show (cs.drop off).take c++(cs.drop (off+c)).take m=(cs.drop off).take (c+m)from by rw[List.take_add,q18]]at this
theorem jU.struct{α:Type}{t:TypeId}{fs:Array Field}{e:α->List PV}{ok:α->Prop}{n c:Nat}(ht:P.underlying t=some (.struct fs))(hc:P.cellsOf t=c)(hlen: ∀a,(e a).length=c)
  (h:rq P fs.toList e ok n 0):jU P t e ok (n+1):=by
 intro H enc w base spare held fuel cs x hn hx;obtain⟨xs,m,rfl,_,hl,hxl,hf⟩:=DataW.trod_struct ht hx;obtain⟨a,k,h1,h2,h3,h4⟩:=h H enc w base spare held m cs o? (B! _) (fun f hfm=>by
  obtain⟨i,hi⟩:=kh hfm
  have yv:fs[i]? =some f:=by rw[<- H?];exact hi
  have xQ:i<xs.length:=by
   rw[hxl]
   exact(H!.1 yv).1
  exact⟨xs[i],by rw[hf i f yv,wx xQ]⟩)
 have:k=c:=by rw[<- h2];exact hlen a
 subst this;refine⟨a,h1,by rw[h2,hc], ?_⟩;rwa[List.drop_zero,List.take_of_length_le (by rw[hl,hc];exact jv _)]at h4
end
end Go.Gm
namespace Go.Gm
open Go Go.ChangeShapes Go.WideShapes Go.RowKit
theorem QR{H:Type}{enc:TypeId×Value->H}{P:Program}(hl:laidOutB P=true){W W' :World}{sp' :Nat->Bool}:
  ∀{ts:List TypeId}{vs:List Value}{ds:List (DataW H)}{ps:List MemPlace},(∀ t∈ts,P.readableRec t=true/\t<P.types.size)->
  DataW.TrodAll enc P W 0 (fun _=>true) true ts vs ds ps->(∀ p∈ps,W.sameAt W' p)->(∀ p∈ps,sp' p.block=true)->DataW.TrodAll enc P W' 0 sp' true ts vs ds ps
 |[],vs,ds,ps,_,h,_,_=>by obtain⟨rfl,rfl,rfl⟩:=trodAll_nil h;exact trodAll_mk0
 |t::ts,vs,ds,ps,hr,h,hs,hp=>by
  obtain⟨v,eg,d,Sa,p,q,rfl,rfl,rfl,h1,h2⟩:=trodAll_cons h;have:=hr t z?;exact trodAll_cons_mk (WideElems.Trod_stays hl this.1 this.2 h1 (fun x hx=>hs x (by simp[hx])) (fun x hx=>hp x (by simp[hx])))
   (QR hl (fun t ht=>hr t (by simp[ht])) h2 (fun x hx=>hs x (by simp[hx])) (fun x hx=>hp x (by simp[hx])))
theorem Jx{H:Type}{enc:TypeId×Value->H}{P:Program}{w:World}{base:Nat}{spare:Nat->Bool}{held:Bool}:
  ∀{ts:List TypeId}{vs:List Value}{ds:List (DataW H)}{ps:List MemPlace},DataW.TrodAll enc P w base spare held ts vs ds ps->ts.length=vs.length/\ds.length=ts.length
 |[],vs,ds,ps,h=>by obtain⟨rfl,rfl,rfl⟩:=trodAll_nil h;exact⟨rfl,rfl⟩
 |t::ts,vs,ds,ps,h=>by obtain⟨v,eg,d,Sa,p,q,rfl,rfl,rfl,h1,h2⟩:=trodAll_cons h;obtain⟨a,b⟩:=Jx h2;exact⟨by simp[a],by simp[b]⟩
def dT{α:Type}(P:Program)(t:TypeId)(e:α->PV)(ok:α->Prop):Prop:=
 ∀(H:Type)(enc:TypeId×Value->H)(w:World)(base lu:Nat)(spare:Nat->Bool)(held:Bool)(v:Value)(d:DataW H)(ps:List MemPlace),Value.okWide P w .any lu t v->
  DataW.Trod enc P w base spare held t v d ps-> ∃a:α,ok a/\RP w (YI w) (e a) v
theorem dT.struct{α:Type}{P:Program}{t:TypeId}{fs:Array Field}{e:α->List PV}{ok:α->Prop}(ht:P.underlying t=some (.struct fs))(h: ∀n,jU P t e ok n):dT P t (fun a=> .agg (e a)) ok:=by intro H enc w base lu spare held v d ps df ⟨fuel,hv⟩;simp only[Value.okWide,ht]at df;obtain⟨cs,rfl,_,_⟩:=df;obtain⟨a,h1,h2,h3⟩:=h fuel H enc w base spare held fuel _ _ (jv _) hv;refine⟨a,h1, ?_⟩;obtain⟨l⟩:=cs;exact .agg _ _ h3.1 h3.2.1 h3.2.2
def oneD:TypeDesc->Bool
 | .bool| .int _| .string| .slice _=>true
 |_=>false
theorem dT.one{α:Type}{P:Program}{t:TypeId}{td:TypeDesc}{e:α->PV}{ok:α->Prop}(ht:P.underlying t=some td)(hd:oneD td=true)(h: ∀n,jU P t (fun a=>[e a]) ok n):dT P t e ok:=by
 intro H enc w base lu spare held v d ps df ⟨fuel,hv⟩;obtain⟨a,h1,h2,h3⟩:=h fuel H enc w base spare held fuel _ _ (jv _) hv;refine⟨a,h1, ?_⟩;have hc:v.cells= #[v]:=by simp only[Value.okWide,ht]at df;cases td<;>simp[oneD]at hd<;>simp only[Cell.okWide,ht]at df<;>cases v<;>simp_all [Cell.ok,Value.cells]
 exact h3.2.2 0 _ v rfl (by rw[hc];rfl)
def wj{β:Type}(P:Program)(ts:List TypeId)(e:β->List PV)(ok:β->Prop):Prop:=
 ∀(H:Type)(enc:TypeId×Value->H)(w:World)(base lu:Nat)(spare:Nat->Bool)(held:Bool)(vs:List Value)(ds:List (DataW H))(ps:List MemPlace),
  (∀(j:Nat) t v,ts[j]? =some t->vs[j]? =some v->Value.okWide P w .any lu t v)->DataW.TrodAll enc P w base spare held ts vs ds ps->
  ∃b:β,ok b/\(e b).length=vs.length/\ ∀(i:Nat) p v,(e b)[i]? =some p->vs[i]? =some v->RP w (YI w) p v
theorem wj.nil{P:Program}:wj P [] (fun _:Unit=>[]) (fun _=>True):=by intro H enc w base lu spare held vs ds ps _ h;obtain⟨rfl,rfl,rfl⟩:=trodAll_nil h;exact⟨(),trivial,rfl,z?⟩
theorem wj.cons{α β:Type}{P:Program}{t:TypeId}{ts:List TypeId}{e1:α->PV}{ok1:α->Prop}{e2:β->List PV}{ok2:β->Prop}(h1:dT P t e1 ok1)(h2:wj P ts e2 ok2):
  wj P (t::ts) (fun x:α×β=>e1 x.1::e2 x.2) (fun x=>ok1 x.1/\ok2 x.2):=by intro H enc w base lu spare held vs ds ps df h;obtain⟨v,eg,d,Sa,p,q,rfl,rfl,rfl,r1,r2⟩:=trodAll_cons h;obtain⟨a,a1,a2⟩:=h1 H enc w base lu spare held v d p (df 0 t v rfl rfl) r1;obtain⟨b,b1,b2,b3⟩:=h2 H enc w base lu spare held eg Sa q (fun j t v x y=>df (j+1) t v (by simpa using x) (by simpa using y)) r2;refine⟨(a,b),⟨a1,b1⟩,by simp[b2],fun i x y hx hy=>?_⟩;cases i with|zero=>simp at hx hy;subst hx;subst hy;exact a2|succ i=>exact b3 i x y (by simpa using hx) (by simpa using hy)
theorem wj.weaken{β:Type}{P:Program}{ts:List TypeId}{e:β->List PV}{ok:β->Prop}(h:wj P ts e ok):wj P ts e fun _=>True:=by intro H enc w base lu spare held vs ds ps df hh;obtain⟨b,_,h2,h3⟩:=h H enc w base lu spare held vs ds ps df hh;exact⟨b,trivial,h2,h3⟩
theorem H9[xd]{P:Program}{G:GP}{S:pd}(hm:P.follows .mixedOrders=true)(hG:yA P G)(hF:Dc P G)(hS:Qa P S)(hl:laidOutB P=true)
  {f:FuncId} {fn:Func} {tb:TypeId} (hres:fn.resultTypes= #[tb]) (htb:P.underlying tb=some .bool) {s:ChangeSpec} (hvars:s.vars=[])
  (hread: ∀t∈fn.params.toList,P.readableRec t=true/\t<P.types.size)
  (Lb: ∀(H:Type)(ds:List (DataW H)),ds.length=fn.params.toList.length->s.fn H ds={ results:=[.lit (.bool true)],args:=ds })
  {β:Type} {e:β->List PV} {ok:β->Prop} (Sm:wj P fn.params.toList e ok)
  (dj: ∀b,ok b-> ∃H',(omega G S).call f ((e b).map .pv) []=some (.pv (.bool true),H'))
  {H:Type} {enc:TypeId×Value->H} {W:World} {base:Nat} {args:Array Value} {ds gs:List (DataW H)} {before:List MemPlace}
  (JQ: ∀(j:Nat) t v,fn.params[j]? =some t->args[j]? =some v->Value.okWide P W .any base t v)
  (hW:DataW.Whole enc P fn.params.toList s.vars false W args.toList ds gs before) (hgl:xd.ok W/\ ∀b,xd.on b->b<W.heap.size):
  Calls P f args W fun e W' => ∃v,e= .returned v/\s.post enc P fn false true false false W args v W' :=by
 have hW' :=hW;obtain⟨p,q,hA,hV,rfl,hfz,Ei⟩:=hW;obtain⟨vs⟩:=args;rw[hvars]at hV;obtain⟨rfl,rfl⟩:=trodVars_none hV;obtain⟨hl1,T1⟩:=Jx hA;obtain⟨b,b1,b2,b3⟩:=Sm H enc W 0 base _ _ vs ds p (fun j t v h1 h2=>JQ j t v (by rw[<- H?];exact h1) (by rw[<- H?];exact h2)) hA;obtain⟨H',hc⟩:=dj b b1;have df:=q0d hm hG hF hS hc W (fun _=>⟨0,0,[]⟩) (YI W) vs (old_inv W _ hgl) (by simpa using b2) (fun i x v h1 h2=>by
  simp only[X?,yS]at h1
  obtain⟨y,hy,rfl⟩:=h1
  exact .pv _ _ (b3 i y v hy h2))
 refine df.mono fun en W'⟨v,ι',jT,h1,h2,h3,h4⟩=>?_;subst h1;have hv:v= .bool true:=by have:=h4.gA;cases this;rfl
 subst hv;have OT: ∀k,k<W.heap.size->W'.heap[k]? =W.heap[k]? :=fun k hk=>h3.kF k hk fun β x hx=>by cases hx
 have xQ: ∀x∈p,x.block<W.heap.size:=fun x hx=>hW'.lt x (by simp[hx]);have Jh: ∀x∈p,W.sameAt W' x:=fun x hx=>by cases x with|cell b o=>exact World.cell?_of_block (w:=W) (OT b (xQ _ hx))|map b=>exact OT b (xQ _ hx)
 refine⟨_,rfl,ds,[],p++[],[],p,[],hW', ?_, ?_, ?_, ?_,fun h=>by cases h⟩;rw[N_,Lb H ds T1,hres];exact trodAll_cons_mk (shut_bool htb true) trodAll_mk0;rw[N_,Lb H ds T1];exact QR hl hread hA Jh (fun x hx=>by simpa using xQ x hx);rw[hvars];rw[N_,Lb H ds T1];rfl;refine⟨h3.io.1,h3.io.2,fun i hi=>?_⟩;rw[OT i hi];split<;>simp_all
end Go.Gm
namespace Go.Gm
open Go
structure IB (b:Bool):Prop where
 h:b=true
inductive Fr where
 |code (c:Code)
 |upto (id:Nat)
 |pL (l:List Da)
def cont(G:GP)(O:xi)(f:FuncId):List Fr->Ex×St->Option (Ex×St)
 |[],x=>some x
 | .upto id::r,(.exit i,s)=>if i=id then cont G O f r (.normal,s)else cont G O f r (.exit i,s)
 | .upto _::r,(.normal,s)=>cont G O f r (.normal,s)
 | .upto _::r,(.ret,s)=>cont G O f r (.ret,s)
 | .pL l::r,(.normal,s)=>cont G O f r (.normal,Gm.pL l s)
 | .pL _::r,(.exit i,s)=>cont G O f r (.exit i,s)
 | .pL _::r,(.ret,s)=>cont G O f r (.ret,s)
 | .code c::r,(.normal,s)=>match exec G O f c s with
  |some x=>cont G O f r x
  |none=>none
 | .code _::r,(.exit i,s)=>cont G O f r (.exit i,s)
 | .code _::r,(.ret,s)=>cont G O f r (.ret,s)
def Wu(G:GP)(O:xi)(f:FuncId)(all l:List Oper)(s:St)(r:List Fr):Option (Ex×St):=
 match Xz G O all l s with
 |some s' =>cont G O f r (.normal,s')
 |none=>none
def JT(G:GP)(O:xi)(f:FuncId)(all:List Oper)(tm:Bool)(i:Nat)(l:List Oper)(s:St)(log:List (Nat×List Nat×List Nat))(r:List Fr):Option (Ex×St):=
 match dV G O all tm i l s log with
 |some s' =>cont G O f r (.normal,s')
 |none=>none
def effX(G:GP)(O:xi)(f:FuncId)(all l:List Oper)(d:Option Tmp)(E:yo)(H:qp)(r:List Fr):Option mA->Option (Ex×St)
 |some (v,ws,nx)=>Wu G O f all l ⟨fj d v E,z6 ws H,nx⟩ r
 |none=>none
def effD(G:GP)(O:xi)(f:FuncId)(all:List Oper)(tm:Bool)(i:Nat)(l:List Oper)(d:Option Tmp)(E:yo)(H:qp)(rd:List Nat)(log:List (Nat×List Nat×List Nat))(r:List Fr):Option mA->Option (Ex×St)
 |some (v,ws,nx)=>JT G O f all tm i l ⟨fj d v E,z6 (eH tm rd H ws) H,nx⟩ ((i-1,rd,(eH tm rd H ws).map (·.1))::log) r
 |none=>none
section
variable {G:GP} {O:xi} {f:FuncId}
theorem X_one(c:Code)(s:St):exec G O f c s=cont G O f [.code c] (.normal,s):=by simp only[cont];split<;>simp_all
theorem X_nil(x:Ex×St):cont G O f [] x=some x:=rfl
theorem X_uptoN(id:Nat)(r:List Fr)(s:St):cont G O f (.upto id::r) (.normal,s)=cont G O f r (.normal,s):=rfl
theorem X_uptoR(id:Nat)(r:List Fr)(s:St):cont G O f (.upto id::r) (.ret,s)=cont G O f r (.ret,s):=rfl
theorem X_uptoE(id i:Nat)(r:List Fr)(s:St):cont G O f (.upto id::r) (.exit i,s)=if i=id then cont G O f r (.normal,s)else cont G O f r (.exit i,s):=rfl
theorem X_codeR(c:Code)(r:List Fr)(s:St):cont G O f (.code c::r) (.ret,s)=cont G O f r (.ret,s):=rfl
theorem X_codeE(c:Code)(i:Nat)(r:List Fr)(s:St):cont G O f (.code c::r) (.exit i,s)=cont G O f r (.exit i,s):=rfl
theorem X_skip(r:List Fr)(s:St):cont G O f (.code .skip::r) (.normal,s)=cont G O f r (.normal,s):=rfl
theorem X_ret(r:List Fr)(s:St):cont G O f (.code .ret::r) (.normal,s)=cont G O f r (.ret,s):=rfl
theorem X_exit(i:Nat)(r:List Fr)(s:St):cont G O f (.code (.exit i)::r) (.normal,s)=cont G O f r (.exit i,s):=rfl
theorem X_seq(a b:Code)(r:List Fr)(s:St):cont G O f (.code (.seq a b)::r) (.normal,s)=cont G O f (.code a:: .code b::r) (.normal,s):=by simp only[cont,exec];cases exec G O f a s with|none=>rfl|some x=>obtain⟨e,s'⟩:=x;cases e<;>rfl
theorem X_cond(c:Operand)(t e:Code)(r:List Fr)(s:St):cont G O f (.code (.cond c t e)::r) (.normal,s)=match ev s.env c with
  | .pv (.bool b)=>if b=true then cont G O f (.code t::r) (.normal,s)else cont G O f (.code e::r) (.normal,s)
  |_=>none:=by
 simp only[cont,exec];cases ev s.env c with
 |pv p=>cases p with
  |bool b=>cases b<;>rfl
  |_=>rfl
 |_=>rfl
def Lv:Code->Bool
 | .loop _=>true
 |_=>false
theorem o4(id:Nat)(c:Code)(r:List Fr)(s:St)(hl:Lv c=false):cont G O f (.code (.block id c)::r) (.normal,s)=cont G O f (.code c:: .upto id::r) (.normal,s):=by
 have hex:exec G O f (.block id c) s=match exec G O f c s with
   |some (.exit i,s')=>if i=id then some (.normal,s')else some (.exit i,s')
   |some (.normal,s')=>some (.normal,s')
   |some (.ret,s')=>some (.ret,s')
   |none=>none:=by
  cases c<;>first|rfl|(simp [Lv]at hl)
 simp only[cont,hex];cases exec G O f c s with|none=>rfl|some x=>obtain⟨e,s'⟩:=x;cases e with|exit i=>by_cases h:i=id<;>simp[cont,h]|_=>rfl
theorem II(id:Nat)(a b:Code)(r:List Fr)(s:St):cont G O f (.code (.block id (.seq a b))::r) (.normal,s)=cont G O f (.code (.seq a b):: .upto id::r) (.normal,s):=o4 _ _ _ _ rfl
theorem IE(id i:Nat)(a:Code)(r:List Fr)(s:St):cont G O f (.code (.block id (.block i a))::r) (.normal,s)=cont G O f (.code (.block i a):: .upto id::r) (.normal,s):=o4 _ _ _ _ rfl
theorem IF(id:Nat)(c:Operand)(a b:Code)(r:List Fr)(s:St):cont G O f (.code (.block id (.cond c a b))::r) (.normal,s)=cont G O f (.code (.cond c a b):: .upto id::r) (.normal,s):=o4 _ _ _ _ rfl
theorem IH(id i:Nat)(a:Array Oper)(d:Bool)(r:List Fr)(s:St):cont G O f (.code (.block id (.region i a d))::r) (.normal,s)=cont G O f (.code (.region i a d):: .upto id::r) (.normal,s):=o4 _ _ _ _ rfl
theorem IK(id i:Nat)(r:List Fr)(s:St):cont G O f (.code (.block id (.exit i))::r) (.normal,s)=cont G O f (.code (.exit i):: .upto id::r) (.normal,s):=o4 _ _ _ _ rfl
theorem IG(id:Nat)(r:List Fr)(s:St):cont G O f (.code (.block id .skip)::r) (.normal,s)=cont G O f r (.normal,s):=by rw[o4 _ _ _ _ rfl];rfl
theorem IJ(id:Nat)(r:List Fr)(s:St):cont G O f (.code (.block id .ret)::r) (.normal,s)=cont G O f r (.ret,s):=by rw[o4 _ _ _ _ rfl];rfl
def LK(G:GP)(O:xi)(f:FuncId)(id:Nat)(r:List Fr):Option St->Option (Ex×St)
 |some s=>match O.loop f id s with
  |some x=>cont G O f r x
  |none=>none
 |none=>none
theorem X_loop(id:Nat)(c:Code)(r:List Fr)(s:St):cont G O f (.code (.block id (.loop c))::r) (.normal,s)=LK G O f id r (ep (G.spec f id) s):=by simp only[cont,exec,LK];cases ep (G.spec f id) s with|none=>rfl|some s1=>rfl
theorem To(id:Nat)(r:List Fr)(s:St):LK G O f id r (some s)=match O.loop f id s with
  |some x=>cont G O f r x
  |none=>none:=rfl
theorem Ow(l o p q r s):ep ⟨l,o,p,q,r,0⟩ s=some (enter ⟨l,o,p,q,r,0⟩ s):=rfl
theorem again_0(l o p q r n s):again ⟨l,o,p,q,r,0⟩ n s=narrow l n s:=rfl
theorem leave_0(l o p q r n s):leave ⟨l,o,p,q,r,0⟩ n s=some (i5 o n s):=rfl
def Xc(n:Nat):Option St->Option St
 |some s1=>if s1.nx=n then some s1 else none
 |none=>none
theorem Rs(n:Nat)(E H k):Xc n (some ⟨E,H,k⟩)=if k=n then some ⟨E,H,k⟩else none:=rfl
theorem Ox(l o p q r s):ep ⟨l,o,p,q,r,1⟩ s=Xc (s.nx+1) (canon l s.nx (enter ⟨l,o,p,q,r,1⟩ s)):=rfl
theorem Oy(l o p q r s):ep ⟨l,o,p,q,r,2⟩ s=Xc (s.nx+2) (canon l s.nx (enter ⟨l,o,p,q,r,2⟩ s)):=rfl
theorem Oz(l o p q r s):ep ⟨l,o,p,q,r,3⟩ s=Xc (s.nx+3) (canon l s.nx (enter ⟨l,o,p,q,r,3⟩ s)):=rfl
theorem OA(l o p q r s):ep ⟨l,o,p,q,r,4⟩ s=Xc (s.nx+4) (canon l s.nx (enter ⟨l,o,p,q,r,4⟩ s)):=rfl
theorem again_1(l o p q r n s):again ⟨l,o,p,q,r,1⟩ n s=Xc n (canon l (n-1) (xb q (k9 p s))):=rfl
theorem again_2(l o p q r n s):again ⟨l,o,p,q,r,2⟩ n s=Xc n (canon l (n-2) (xb q (k9 p s))):=rfl
theorem again_3(l o p q r n s):again ⟨l,o,p,q,r,3⟩ n s=Xc n (canon l (n-3) (xb q (k9 p s))):=rfl
theorem again_4(l o p q r n s):again ⟨l,o,p,q,r,4⟩ n s=Xc n (canon l (n-4) (xb q (k9 p s))):=rfl
theorem leave_1(l o p q r n s):leave ⟨l,o,p,q,r,1⟩ n s=canon o (n-1) s:=rfl
theorem leave_2(l o p q r n s):leave ⟨l,o,p,q,r,2⟩ n s=canon o (n-2) s:=rfl
theorem leave_3(l o p q r n s):leave ⟨l,o,p,q,r,3⟩ n s=canon o (n-3) s:=rfl
theorem leave_4(l o p q r n s):leave ⟨l,o,p,q,r,4⟩ n s=canon o (n-4) s:=rfl
def keptL(l:List Nat)(n:Nat)(s:St):Option St:=if n<=s.nx then some { s with env:=restrict s.env l }else none
theorem keptL_S(l:List Nat)(n E H k):keptL l n ⟨E,H,k⟩=if n<=k then some ⟨restrict E l,H,k⟩else none:=rfl
theorem Po(l o p q r n s):again ⟨l,o,p,q,r,1000⟩ n s=keptL l n (xb q (k9 p s)):=by unfold again;rw[if_pos rfl];rfl
theorem X_cmds0(r:List Fr)(s:St):cont G O f (.pL []::r) (.normal,s)=cont G O f r (.normal,s):=rfl
theorem X_cmdsC(c:Da)(l:List Da)(r:List Fr)(s:St):cont G O f (.pL (c::l)::r) (.normal,s)=cont G O f (.pL l::r) (.normal,Vv c s):=rfl
theorem IL(id:Nat)(ops:Array Oper)(r:List Fr)(s:St):cont G O f (.code (.region id ops false)::r) (.normal,s)=Wu G O f ops.toList ops.toList (pL (G.cmd f (2*id)) s) (.pL (G.cmd f (2*id+1))::r):=by simp only[cont,exec,Wu];cases Xz G O ops.toList ops.toList (pL (G.cmd f (2*id)) s)<;>rfl
theorem Di(id:Nat)(ops:Array Oper)(r:List Fr)(s:St):cont G O f (.code (.region id ops true)::r) (.normal,s)=JT G O f ops.toList (Q4 (G.pre f id)) 0 ops.toList (pres G f id (pL (G.cmd f (2*id)) s)) [] (.pL (G.cmd f (2*id+1))::r):=by simp only[cont,exec,JT];cases dV G O ops.toList (Q4 (G.pre f id)) 0 ops.toList (pres G f id (pL (G.cmd f (2*id)) s)) []<;>rfl
theorem pres_S(f:FuncId)(id:Nat)(E:yo)(H:qp)(nx:Nat):pres G f id ⟨E,H,nx⟩=uW (dh E H (G.pre f id)) ⟨E,H,nx⟩:=rfl
theorem Y_nil(all:List Oper)(s:St)(r:List Fr):Wu G O f all [] s r=cont G O f r (.normal,s):=rfl
theorem Y_op(all:List Oper)(d:Option Tmp)(o:Op)(ty:TypeId)(ps:String)(af:Array Edge)(l:List Oper)(E:yo)(H:qp)(nx:Nat)(r:List Fr):
  Wu G O f all (⟨d,o,ty,ps,af,none⟩::l) ⟨E,H,nx⟩ r=match uW (Nq G o E) ⟨E,H,nx⟩with
   |⟨E',H',n'⟩=>effX G O f all l d E' H' r (mB G O o E' H' n'):=by
 simp only[Wu,Xz,yB,Xf];generalize uW (Nq G o E) ⟨E,H,nx⟩=s;obtain⟨E',H',n'⟩:=s;simp only;cases mB G O o E' H' n' with
 |none=>rfl
 |some e=>obtain⟨v,ws,k⟩:=e;rfl
theorem Y_guard(all:List Oper)(d:Option Tmp)(o:Op)(ty:TypeId)(ps:String)(af:Array Edge)(g:Nat×Bool)(l:List Oper)(E:yo)(H:qp)(nx:Nat)(r:List Fr):
  Wu G O f all (⟨d,o,ty,ps,af,some g⟩::l) ⟨E,H,nx⟩ r=match yB all ⟨d,o,ty,ps,af,some g⟩ E with
   |some b=>if b=true then Wu G O f all (⟨d,o,ty,ps,af,none⟩::l) ⟨E,H,nx⟩ r else Wu G O f all l ⟨fj d (.xR []) E,H,nx⟩ r
   |none=>none:=by
 simp only[Wu,Xz];cases yB all ⟨d,o,ty,ps,af,some g⟩ E with
 |none=>rfl
 |some b=>cases b<;>simp[yB,Xf]
theorem PW(all:List Oper)(d:Option Tmp)(o:Op)(ty:TypeId)(ps:String)(af:Array Edge)(j:Nat)(w:Bool)(E:yo):
  yB all ⟨d,o,ty,ps,af,some (j,w)⟩ E=match all[j]? with
   |some oj=>match oj.dst with
    |some d=>match E.get d with
     | .pv (.bool b)=>some (b==w)
     | .xR []=>some false
     |_=>none
    |none=>some false
   |none=>some false:=rfl
theorem Z_nil(all:List Oper)(tm:Bool)(i:Nat)(s:St)(log:List (Nat×List Nat×List Nat))(r:List Fr)(h:IB (mG (wG [] all) log)):JT G O f all tm i [] s log r=cont G O f r (.normal,s):=by simp only[JT,dV,h.h,if_true]
theorem Z_op(all:List Oper)(tm:Bool)(i:Nat)(d:Option Tmp)(o:Op)(ty:TypeId)(ps:String)(af:Array Edge)(l:List Oper)(E:yo)(H:qp)(nx:Nat)(log:List (Nat×List Nat×List Nat))(r:List Fr):
  JT G O f all tm i (⟨d,o,ty,ps,af,none⟩::l) ⟨E,H,nx⟩ log r=effD G O f all tm (i+1) l d E H (tg o E H) log r (mB G O o E H nx):=by simp only[JT,dV,yB];cases mB G O o E H nx with|none=>rfl|some e=>obtain⟨v,ws,k⟩:=e;rfl
theorem Z_guard(all:List Oper)(tm:Bool)(i:Nat)(d:Option Tmp)(o:Op)(ty:TypeId)(ps:String)(af:Array Edge)(g:Nat×Bool)(l:List Oper)(E:yo)(H:qp)(nx:Nat)(log:List (Nat×List Nat×List Nat))(r:List Fr):
  JT G O f all tm i (⟨d,o,ty,ps,af,some g⟩::l) ⟨E,H,nx⟩ log r=match yB all ⟨d,o,ty,ps,af,some g⟩ E with
   |some b=>if b=true then JT G O f all tm i (⟨d,o,ty,ps,af,none⟩::l) ⟨E,H,nx⟩ log r else JT G O f all tm (i+1) l ⟨fj d (.xR []) E,H,nx⟩ log r
   |none=>none:=by
 simp only[JT,dV];cases yB all ⟨d,o,ty,ps,af,some g⟩ E with
 |none=>rfl
 |some b=>cases b<;>simp[yB,Xf]
theorem DQ(all l:List Oper)(d:Option Tmp)(E:yo)(H:qp)(r:List Fr)(v:AV)(ws:List (Nat×qD))(nx:Nat):
  effX G O f all l d E H r (some (v,ws,nx))=Wu G O f all l ⟨fj d v E,z6 ws H,nx⟩ r:=rfl
theorem DP(all l:List Oper)(d:Option Tmp)(E:yo)(H:qp)(r:List Fr):effX G O f all l d E H r none=none:=rfl
theorem DO(all:List Oper)(i:Nat)(l:List Oper)(d:Option Tmp)(E:yo)(H:qp)(rd:List Nat)(log:List (Nat×List Nat×List Nat))(r:List Fr)(v:AV)(ws:List (Nat×qD))(nx:Nat):
  effD G O f all false (i+1) l d E H rd log r (some (v,ws,nx))=JT G O f all false (i+1) l ⟨fj d v E,z6 ws H,nx⟩ ((i,rd,ws.map (·.1))::log) r:=rfl
theorem trimOff(l:List Nat)(h:Q4 l=false):Q4 l=false:=h
theorem bool_tt:(true==true)=true:=rfl
theorem bool_ff:(false==false)=true:=rfl
theorem bool_ft:(false==true)=false:=rfl
theorem bool_tf:(true==false)=false:=rfl
def aj(G:GP)(O:xi)(f:FuncId)(id n:Nat):Option (Ex×St)->Option (Ex×St)
 |some (.normal,s')=>match again (G.spec f id) n (uW (dh s'.env s'.heap (G.spec f id).freeze) s')with
  |some s'' =>O.loop f id s''
  |none=>none
 |some (.exit i,s')=>if i=id then left .normal (leave (G.spec f id) n s')else left (.exit i) (leave (G.spec f id) n s')
 |some (.ret,s')=>left .ret (leave (G.spec f id) n s')
 |none=>none
theorem Rl(id n:Nat)(s:St):aj G O f id n (some (.normal,s))=match again (G.spec f id) n (uW (dh s.env s.heap (G.spec f id).freeze) s)with|some s'' =>O.loop f id s'' |none=>none:=rfl
theorem Rk(id n i:Nat)(s:St):aj G O f id n (some (.exit i,s))=if i=id then left .normal (leave (G.spec f id) n s)else left (.exit i) (leave (G.spec f id) n s):=rfl
theorem Rm(id n:Nat)(s:St):aj G O f id n (some (.ret,s))=left .ret (leave (G.spec f id) n s):=rfl
theorem left_S(ex:Ex)(s:St):left ex (some s)=some (ex,s):=rfl
theorem L_step{fi:FI}(XF:G.fn f=some fi){id:Nat}{c:Code}(hc:zF fi.body id=some c)(s:St):
  mM G O f id s=aj G O f id s.nx (cont G O f [.code c] (.normal,s)):=by unfold mM;rw[XF];simp only[hc,X_one];cases cont G O f [.code c] (.normal,s)with|none=>rfl|some x=>obtain⟨e,s'⟩:=x;cases e<;>rfl
def fnE(G:GP)(f:FuncId)(m:Nat)(res:List ResultVar)(s:St):Option (AV×qp):=
 match ah G s res with
 |some vs=>finish m (G.sb f) (Q5 vs) s
 |none=>none
def Ye(G:GP)(f:FuncId)(m:Nat)(res:List ResultVar):Option (Ex×St)->Option (AV×qp)
 |some (.exit _,_)=>none
 |some (_,s)=>fnE G f m res (pL (G.cmd f 999999) s)
 |none=>none
theorem fnEnd_N(m:Nat)(res:List ResultVar)(s:St):Ye G f m res (some (.normal,s))=fnE G f m res (pL (G.cmd f 999999) s):=rfl
theorem fnEnd_R(m:Nat)(res:List ResultVar)(s:St):Ye G f m res (some (.ret,s))=fnE G f m res (pL (G.cmd f 999999) s):=rfl
theorem fnE_S(m:Nat)(res:List ResultVar)(E:yo)(H:qp)(nx:Nat):fnE G f m res ⟨E,H,nx⟩=match ah G ⟨E,H,nx⟩ res with|some vs=>finish m (G.sb f) (Q5 vs) ⟨E,H,nx⟩|none=>none:=rfl
theorem F_step{fi:FI}(XF:G.fn f=some fi){H:qp}(hk:uM 0 H=true)(args:List AV):
  lY G O f args H=Ye G f H.length fi.results (cont G O f [.code fi.body] (.normal,⟨rA 0 args,H,H.length⟩)):=by unfold lY;rw[XF];simp only[hk,if_true,X_one];cases cont G O f [.code fi.body] (.normal,⟨rA 0 args,H,H.length⟩)with|none=>rfl|some x=>obtain⟨e,s'⟩:=x;cases e<;>rfl
theorem SY{S:pd}{nt:Nat}{ob:Option Code}{ra:Array ResultVar}(hs:S.call f=none)(XF:G.fn f=some ⟨nt,ra.toList,ob.get!⟩){c:Code}(hc:ob=some c){rs:List ResultVar}(hr:ra=⟨rs⟩){H:qp}
  (hk:uM 0 H=true) {args:List AV} {r:Option (AV×qp)}
  (h:Ye G f H.length rs (cont G (omega G S) f [.code c] (.normal,⟨rA 0 args,H,H.length⟩))=r):(omega G S).call f args H=r:=by subst hc hr;rw[TB hs,F_step XF hk];exact h
theorem SZ{S:pd}{fi:FI}(XF:G.fn f=some fi){id:Nat}{c:Code}(hc:zF fi.body id=some c){s:St}{r:Option (Ex×St)}
  (h:aj G (omega G S) f id s.nx (cont G (omega G S) f [.code c] (.normal,s))=r):(omega G S).loop f id s=r:=by rw[TC,L_step XF hc];exact h
end
end Go.Gm
namespace Go.Gm
open Go Go.RowKit Go.Maps
set_option maxRecDepth 10000
def N2:List (PV×PV×Nat)->Option (List Int)
 |[]=>some []
 |(.int .i64 k,_,_)::r=>match N2 r with
  |some l=>some (k::l)
  |none=>none
 |_=>none
def Td(x:Int):List Int->List Int
 |[]=>[x]
 |y::r=>if x<=y then x::y::r else y::Td x r
def pI:List Int->List Int
 |[]=>[]
 |x::r=>Td x (pI r)
theorem XK(x:Int): ∀l,(Td x l).Perm (x::l)
 |[]=> .refl _
 |y::r=>by simp only[Td];split;exact .refl _;exact((XK x r).cons y).trans (.swap x y r)
theorem Zl: ∀l,(pI l).Perm l
 |[]=> .refl _
 |x::r=>(XK x _).trans ((Zl r).cons x)
theorem SF(x:Int): ∀l,l.Pairwise (· <= ·)->(Td x l).Pairwise (· <= ·)
 |[],_=>by simp[Td]
 |y::r,h=>by simp only[Td];rw[J!]at h;split;rename_i hxy;refine J!.2 ⟨fun z hz=>?_,J!.2 h⟩;rcases U?.1 hz with rfl|hz;exact hxy;exact I' hxy (h.1 z hz);rename_i hxy;refine J!.2 ⟨fun z hz=>?_,SF x r h.2⟩;rcases U?.1 ((XK x r).mem_iff.1 hz)with rfl|hz;omega;exact h.1 z hz
theorem Mk: ∀l,(pI l).Pairwise (· <= ·)
 |[]=> .nil
 |x::r=>SF x _ (Mk r)
theorem Ml(l l' :List Int)(h:l'.Perm l):l'.mergeSort (fun x y=>decide (x<=y))=pI l:=by
 have tr: ∀a b c:Int,decide (a<=b)=true->decide (b<=c)=true->decide (a<=c)=true:=fun a b c h1 h2=>by simp only[decide_eq_true_eq]at *; exact I' h1 h2
 have to: ∀a b:Int,(decide (a<=b) || decide (b<=a))=true:=fun a b=>by simp only[g!,decide_eq_true_eq];exact Int.le_total a b
 refine List.Perm.eq_of_pairwise (le:=fun a b=>a<=b) (fun a b _ _ h1 h2=>Int.le_antisymm h1 h2) ?_ (Mk l) (((List.mergeSort_perm l' _).trans h).trans (Zl l).symm);have:=List.pairwise_mergeSort tr to l';exact this.imp fun h=>by simpa using h
def SI(ks:List Int)(st:List Nat)(zW:Nat):Bool:=
 decide ks.Nodup&&ks.all (fun k=>decide (-9223372036854775808<=k)&&decide (k<=9223372036854775807))&&decide st.Nodup&&st.all (fun b=>decide (b<zW))&&decide (ks.length<=1099511627776)
def s8:List (PV×PV×Nat)->List Nat
 |[]=>[]
 |e::r=>e.2.2::s8 r
def WR(fk:FuncId)(args:List AV)(H:qp):Option (AV×qp):=
 match args,H with
 |[.QX g [] [.ptr 0 0]],[(0,.box [.map 1]),(1,.map es zW)]=>match N2 es with
  |some ks=>if g=fk/\SI ks (s8 es) zW=true then some (.row 2 (pI ks).length 0 (pI ks).length,[(0,.box [.map 1]),(1,.map es zW),(2,.row (pI ks).isEmpty (zT 1 (pI ks)) ((pI ks).map fun k=>[.int .i64 k]))])else none
  |none=>none
 |_,_=>none
theorem Yq: ∀{es:List (PV×PV×Nat)}{ks:List Int},N2 es=some ks->ks.length=es.length/\ ∀(i:Nat)(k x:PV)(b:Nat),es[i]? =some (k,x,b)-> ∃n,ks[i]? =some n/\k= .int .i64 n
 |[],ks,h=>by cases h;exact⟨rfl,z?⟩
 |(p,v,b)::r,ks,h=>by cases p with|int kd k=>(cases kd<;>simp only[N2]at h<;>try cases h);split at h;(rename_i l hl;cases h;obtain⟨h1,h2⟩:=Yq hl;refine⟨by simp[h1],fun i k' x b' hi=>?_⟩;cases i with|zero=>simp at hi;obtain⟨rfl,_⟩:=hi;exact⟨k,rfl,rfl⟩|succ i=>simpa using h2 i k' x b' (by simpa using hi));cases h|_=>simp[N2]at h
theorem oG: ∀es,s8 es=es.map (·.2.2)
 |[]=>rfl
 |e::r=>by simp[s8,oG r]
theorem BZ{H:Type}(x:Lit×DataW H): ∀l,(DataW.insert x l).Perm (x::l)
 |[]=> .refl _
 |y::r=>by simp only[DataW.insert];split;exact .refl _;exact((BZ x r).cons y).trans (.swap x y r)
theorem XL{H:Type}: ∀l:List (Lit×DataW H),(l.foldr DataW.insert []).Perm l
 |[]=> .refl _
 |x::r=>(BZ x _).trans ((XL r).cons x)
theorem zd.below[xd]{w w' :World}{H:qp}{ι:yp}{Im:Nat->Prop}(hi:zd w H ι Im)(hb:Below w.heap.size w w'):
    zd w' H ι (fun b=>Im b\/(w.heap.size<=b/\b<w'.heap.size))/\wU w H ι Im w' H ι (fun b=>Im b\/(w.heap.size<=b/\b<w'.heap.size)):=by
  have he:wU w H ι Im w' H ι (fun b=>Im b\/(w.heap.size<=b/\b<w'.heap.size)):={
    comp:=fun β b h=>⟨b,h,uV b _⟩
    im:=fun _ h=> .inl h
    pU:=fun b h=>h.elim .inl fun h=> .inr (.inl h.1)
    nQ:=fun β x z h hu=> .inr ⟨β,x,h,hu⟩
    kF:=fun b h _=>hb.block b h
    size:=hb.size
    io:=⟨hb.os,hb.output⟩ }
  have xQ: ∀β b z,H.get β=some b->b.yb (ι β) z->z<w.heap.size:=fun β b z hB hu=>(hi.rk β b hB).sY hu
  refine⟨⟨fun β b hB=>?_,hi.inj,fun b h=>?_,fun β b z hB hu h=>?_,xd.go hi.BM hi.Vx fun b hb=>he.bc hi b hb,fun b hb=> .inl (hi.Vx b hb)⟩,he⟩
  · exact(hi.rk β b hB).mono hi he fun hu=>⟨rfl,fun x hx=>hb.block _ (xQ β b x hB hx)⟩
  · rcases h with h|h
    · exact U! (hi.im b h) hb.size
    · exact h.2
  · rcases h with h|h
    · exact hi.Vd β b z hB hu h
    · have:=xQ β b z hB hu
      omega
theorem Mn[xd]{P:Program}{fs fk:FuncId}{kt:TypeId}(hkt:P.underlying kt=some (.int .i64))(hen:enters P fs)
  (dj: ∀(l b nn:Nat)(D0:DataW Unit)(w:World),l<w.heap.size->w.cell? ⟨l,0,none⟩=some (.map (some b))->w.ownsMap P kt (fun _=>some (.nil,[])) b nn D0->Maps.size D0<=maxLen->Maps.size D0*8<=140737488355328->
   Calls P fs #[.func (.func fk) #[] #[.pointer (some ⟨l,0,none⟩)]] w fun e w' => ∃(v:Value)(ss:List Int),e= .returned v/\ss.Perm (intKeys D0)/\w'.ownsRow w.heap.size kt 1 v ss.length ((ss.mergeSort (fun x y=>decide (x<=y))).map encZ)/\(v= .slice none 0 0↔ss=[])/\Below w.heap.size w w')
  {args:List AV} {H:qp} {r:AV} {H' :qp} (h:WR fk args H=some (r,H')):enters P fs/\lh P fs args H r H' :=by
 refine⟨hen, ?_⟩;unfold WR at h;split at h
 ·rename_i g es zW;split at h
  ·rename_i ks BS;split at h
   ·rename_i hc;obtain⟨rfl,sw⟩:=hc;cases h;intro w ι Im vs hi hl ha;obtain⟨v0,rfl⟩: ∃v0,vs=[v0]:=by match vs,hl with|[v0],_=>exact⟨v0,rfl⟩
    have h0:=ha 0 _ _ rfl rfl;cases h0 with
     |QX _ _ _ va vb VB Su hA hB=>(have:va=[]:=by cases va with|nil=>rfl|cons=>simp at VB);(subst this;obtain⟨p0,rfl⟩: ∃p0,vb=[p0]:=by match vb,Su with|[p0],_=>exact⟨p0,rfl⟩);have hp:=hB 0 _ _ rfl rfl;cases hp with
     |ptr _ _ c hbox=>have Xk:=hi.rk 0 (.box [.map 1]) rfl;obtain⟨cv,elem,fz,q1,q2,q3,q4,q5⟩:=Xk;obtain⟨m0,hm0⟩: ∃m0,cv[0]? =some m0:=⟨cv[0]'(by rw[<- q3];simp),z?⟩;have hmr:=q5 0 _ _ rfl hm0;cases hmr with
     |map _ _ _ _=>
      (obtain⟨xe,g1,g2,g3⟩:=hi.rk 1 (.map es zW) rfl;obtain⟨k1,k2⟩:=Yq BS;simp only[SI,zQ,decide_eq_true_eq,List.all_eq_true]at sw;obtain⟨⟨⟨⟨f1,f2⟩,f3⟩,f4⟩,f5⟩:=sw;have hbw: ∀β b,qp.get [(0,qD.box [AV.map 1]),(1,qD.map es zW)] β=some b->b.used=true->(ι β).b<w.heap.size:=fun β b hB hu=>(hi.rk β b hB).lt hu;have W4: ∀(i:Nat) e,xe[i]? =some e-> ∃n,ks[i]? =some n/\e.key=encZ n/\e.born=(s8 es)[i]?.getD 0/\i<es.length:=by intro i e he;have xQ:i<es.length:=g2 ▸ (qF he).1;obtain⟨pk,pv,pb,de⟩: ∃a b c,es[i]? =some (a,b,c):=⟨es[i].1,es[i].2.1,es[i].2.2,by simp[xQ]⟩;obtain⟨n,hn,rfl⟩:=k2 i _ _ _ de;obtain⟨r1,r2,r3⟩:=g3 i _ _ _ e de he;refine⟨n,hn, ?_,by rw[oG];simp[de,r3],xQ⟩;have:=r1;generalize e.key=kk at this;cases this;rfl);(have hkeys:xe.map (·.key)=ks.map encZ:=by apply List.ext_getElem?;intro i;cases he:xe[i]? with|none=>(have h1:xe.length<=i:=by simpa using he);have h2:ks.length<=i:=o?;simp[he,h2]|some e=>obtain⟨n,hn,hk,_⟩:=W4 i e he;simp[he,hn,hk]);(have hborn:xe.map (·.born)=s8 es:=by (apply List.ext_getElem?;intro i;have hsl:(s8 es).length=es.length:=by rw[oG];simp);cases he:xe[i]? with|none=>(have h1:xe.length<=i:=by simpa using he);have h2:(s8 es).length<=i:=o?;simp[he,h2]|some e=>obtain⟨n,_,_,hb,xQ⟩:=W4 i e he;have:i<(s8 es).length:=o?;simp[he,hb,this]);(have hrd: ∀(i:Nat) e,xe[i]? =some e-> ∃n,ks[i]? =some n/\WideElems.rd P kt (fun _=>some ((.nil:DataW Unit),[])) e=some (.int .i64 n,.nil):=by (intro i e he;obtain⟨n,hn,hk,_⟩:=W4 i e he;refine⟨n,hn, ?_⟩;obtain⟨b1,b2⟩:=f2 n (z7 hn);have hw:(Lit.int .i64 n).wf=true:=by simp[Lit.wf,IntKind.min,IntKind.max,IntKind.signed,IntKind.bits];omega);simp[WideElems.rd,hk,encZ,keyOf,hkt,mapKey,hw]);let R:Value->Option (DataW Unit×List MemPlace):=fun _=>some (.nil,[]);(have hgl:(xe.map (WideElems.rg P kt R)).map (fun p=>intOf p.1)=ks:=by apply List.ext_getElem?;intro i;cases he:xe[i]? with|none=>(have h1:xe.length<=i:=by simpa using he);have h2:ks.length<=i:=o?;simp[he,h2]|some e=>obtain⟨n,hn,hk⟩:=hrd i e he;simp[he,hn,WideElems.rg,R,hk,intOf]);let D0:DataW Unit:= .map ((xe.map (WideElems.rg P kt R)).foldr DataW.insert []);(have BU:w.ownsMap P kt R (ι 1).b xe.length D0:=by refine⟨⟨xe⟩,zW,g1,⟨?_,⟨fun x hx=>?_, ?_, ?_⟩,fun x hx=>?_⟩,jv _,rfl⟩;show xe.length<=maxLen;simp only[maxLen];omega;apply f4;rw[<- hborn];exact List.mem_map_of_mem hx;show(xe.map (·.born)).Nodup;rw[hborn];exact f3;show(xe.map (·.key)).Nodup;rw[hkeys];exact List.pairwise_map.2 (f1.imp fun jx he=>jx (encZ_inj he));obtain⟨i,yv⟩:=kh hx;obtain⟨n,_,hr⟩:=hrd i x yv;exact⟨_,hr⟩);(have hperm:(intKeys D0).Perm ks:=by have:=(XL (xe.map (WideElems.rg P kt R))).map (fun p=>intOf p.1);rw[hgl]at this;exact this);(have mq:Maps.size D0=ks.length:=by have:=(XL (xe.map (WideElems.rg P kt R))).length_eq;show((xe.map (WideElems.rg P kt R)).foldr DataW.insert []).length=_;rw[this];simp;omega);(have W3:w.cell? ⟨(ι 0).b,0,none⟩=some (.map (some (ι 1).b)):=by simp[World.cell?,q1,hm0]);refine(dj (ι 0).b (ι 1).b xe.length D0 w (hbw 0 _ rfl rfl) W3 BU (by rw[mq];simp only[maxLen];omega) (by rw[mq];omega)).mono ?_;rintro e w' ⟨v,ss,rfl,hS,eu,JP,hb⟩;have Lc:=hS.trans hperm;rw[Ml ks ss Lc]at eu;obtain⟨w1,w2⟩:=eu;have hlen:(pI ks).length=ss.length:=((Zl ks).trans Lc.symm).length_eq;rcases w2 with ⟨rfl,hz⟩|⟨g0,cap,cur,rfl,c1,c2,c3,c4,c5,c6⟩;have e2:pI ks=[]:=List.length_eq_zero_iff.1 o?;rw[e2];obtain⟨hI,hE⟩:=zd.put (Xn:=Ns rfl) hi (w' :=w') 2 (.row true 0 []) ⟨0,0,[]⟩ (fun x hx=>by cases hx) ⟨hb.size,hb.os,hb.output⟩ (fun b h _=>hb.block b h) (fun h=>by cases h) (fun _=>rfl);refine⟨_,_,_,rfl,hI,hE, ?_⟩;exact .row 2 0 0 0 _ (.row true 0 []) rfl rfl (fun _=>⟨_,_,_,rfl⟩) (fun _ _ _ e=>by cases e;exact jv _) (fun _ _ _ e _=>by cases e;exact⟨jv _,rfl⟩);(have jx:ss≠[]:=fun e=>by have:=JP.2 e;cases this);(have e1:(pI ks).isEmpty=false:=by cases hs:pI ks with|nil=>rw[hs]at hlen;exact absurd (List.length_eq_zero_iff.1 hlen.symm) jx|cons=>rfl);(have e2:zT 1 (pI ks)=1:=by cases hs:pI ks with|nil=>rw[hs]at hlen;exact absurd (List.length_eq_zero_iff.1 hlen.symm) jx|cons=>rfl);rw[e1,e2];have UY: ∀(i:Nat)(n:Int),(pI ks)[i]? =some n->cur[i]? =some (encZ n):=by (intro i n hn;have h1:i<(pI ks).length:=(qF hn).1;have h2:(cur.toList.take (ss.length*1))[i]? =some (encZ n):=by rw[c6];simp[hn]);rw[List.getElem?_take_of_lt o?]at h2;rw[<- Array.getElem?_toList];exact h2
      have Vc:((pI ks).map fun k=>[PV.int .i64 k]).length=(pI ks).length:=List.length_map _;obtain⟨hI,hE⟩:=zd.put (Xn:=Ns rfl) hi (w' :=w') 2 (.row false 1 ((pI ks).map fun k=>[PV.int .i64 k])) ⟨g0,cap,[]⟩ (fun x hx=>by cases hx) ⟨hb.size,hb.os,hb.output⟩ (fun b h _=>hb.block b h) (fun _=> .inl c1) (fun _=>by
       refine⟨cur,kt,(0,0),by simpa using c2,kf _,by simpa using c5,o?,by rw[Vc];simpa using(by omega:(pI ks).length<=cap),fun e he=>?_,fun i e j p h1 h2=>?_,fun i e j p h1 h2=>?_⟩
       ·obtain⟨k,_,rfl⟩:=List.mem_map.1 he
        rfl
       ·simp only[List.getElem?_map,yS]at h1
        obtain⟨n,hn,rfl⟩:=h1
        cases j with
        |zero=>simp at h2;subst h2;rfl
        |succ j=>simp at h2
       simp only[List.getElem?_map,yS]at h1
       obtain⟨n,hn,rfl⟩:=h1
       cases j with
       |zero=>
        simp at h2
        subst h2
        exact⟨encZ n,by simpa using UY i n hn,.int .i64 n⟩
       |succ j=>simp at h2)
      refine⟨_,_,_,rfl,hI,hE, ?_⟩;refine .row 2 _ 0 _ _ (.row false 1 ((pI ks).map fun k=>[PV.int .i64 k])) rfl rfl (fun _=>⟨_,_,_,rfl⟩) (fun _ _ _ e=>by cases e;rw[Vc];exact jv _) (fun _ _ _ e _=>?_);cases e;refine⟨by rw[Vc];omega, ?_⟩;simp only[wA,if_false];exact⟨⟨g0,0,none⟩,by rw[hlen];simp,rfl,z?,fun _=>z?⟩
   cases h
  cases h
 cases h
end Go.Gm
namespace Go.Gm
open Go Go.RowKit Go.Sort
end Go.Gm
namespace Go.Gm
open Go
def Kg(t:TypeId)(args:List AV)(H:qp):Option (AV×qp):=
 match args with
 |[.ptr β 0]=>match H.get β with
  |_=>none
 |_=>none
theorem Rx[xd]{P:Program}{f:FuncId}{t:TypeId}(hen:enters P f)
  (SB: ∀(b:Nat)(w:World),w.cell? ⟨b,0,none⟩=some (.pointer (some ⟨b,0,none⟩))->Calls P f #[.pointer (some ⟨b,0,none⟩)] w fun e w' =>e= .returned (.tuple #[])/\w' =w)
  (oq: ∀(b:Nat)(w:World),w.cell? ⟨b,0,none⟩=some (.pointer none)->w.shape? b=some (t,2)->w.frozen? ⟨b,0,none⟩=false->
   Calls P f #[.pointer (some ⟨b,0,none⟩)] w fun e w' =>e= .returned (.tuple #[])/\w' =w.setCell ⟨b,0,none⟩ (.pointer (some ⟨b,0,none⟩)))
  {args:List AV} {H:qp} {r:AV} {H' :qp} (h:Kg t args H=some (r,H')):enters P f/\lh P f args H r H' :=by refine⟨hen, ?_⟩;unfold Kg at h;split at h;rotate_left;cases h;rename_i β;split at h;cases h
end Go.Gm
