/-
  The machine, part c.
-/
import Derived.Test.YtnojdepmnnebnaaGreatQab
import Derived.Below
import Derived.Deep.Draws
import Derived.Laws.AppendOwn
import Derived.Lib.ItoaNum
import Derived.Lib.LaidTab
import Derived.Lib.SlKeysI
import Derived.LoopN
import Derived.Maps.Own
import Derived.OpenShut
import Derived.Orders
import Derived.ProofKit
import Derived.Sort.Grow
open Array renaming getElem?_toList->H?,getElem?_eq_some_iff->H!,replicate->b_,getD->F_
open Bool renaming or_eq_true->z!,not_eq_true'->u_,false_or->q1v
open Go.Gm.AV renaming refs->O?
open Go.Gm.Act renaming put_defers->E_,Xh->q2d
open Go.Gm.pF renaming off->q25
open Go.Gm.qE renaming refs->q1b
open Go.Gm.qr renaming zg->p!,get->A!,put->q_,upto->T',below->q24
open Go.Gm.wR renaming refl->W!
open Go.Gm.yp renaming get->V!
open Go.Sem renaming run_pure->K?
open Int renaming le_trans->q12
open List renaming length_cons->h?,mem_append->m?,getElem?_append_left->r?,map_cons->s?,getElem?_cons_zero->c?,getElem?_cons_succ->i?,getElem?_map->X?,getElem?_append_right->J?,mem_cons->U?,mem_map->N?,range->E?,nodup_append->j!,all_eq_true->Z!,pairwise_cons->J!,filter_cons->T!,getElem?_eq_none->d_,append_nil->T_,mem_cons_of_mem->N',range_eq_range'->M',range'_succ->q1c,flatMap_nil->q1d,nodup_range->q1e,mapM_cons->q1l,drop_drop->q1q,range'->q28
open Nat renaming strongRecOn->p?,add_zero->M?,zero_add->P?,le_trans->n!,mul_comm->X!,lt_of_lt_of_le->U!,zero_le->B!,lt_trichotomy->E!,lt_succ_of_lt->V_,exists_eq_add_of_le->O_,lt_succ_self->q1k,testBit_or->q1u
open Ne renaming symm->n_
open Option renaming getD_some->c!,bind_eq_some_iff->R!
set_option linter.unusedSimpArgs false
set_option linter.unusedVariables false
set_option linter.unusedSectionVars false
namespace Go.Gm
open Go
section
variable [xg] {P:Program} {w:World} {H:qr} {ι:yq} {Im:Nat->Prop}
theorem Wd{ops:Array Oper}{a:Act}{E:yp}(hE: ∀t,RA w H ι Im (E.get t) (a.tmps.getD t undef)){o:Oper}{b:Bool}(h:yC ops.toList o E=some b):
  Region.wanted o (yielded ops a.tmps)=b:=by
 unfold yC at h;unfold Region.wanted;split at h;rename_i hg;rw[hg];cases h;rfl;rename_i j want hg;rw[hg];simp only;split at h;(rename_i oj hoj;have hoj' :ops[j]? =some oj:=by rw[<- H?];exact hoj);split at h;(rename_i d hd;have hyd:yielded ops a.tmps j=match a.tmps[d]? with|some (.bool b)=>some b|_=>none:=by simp only[yielded,hoj',qS,hd];rfl);(rw[hyd];have hr:=hE d;have hgd:a.tmps.getD d undef=(a.tmps[d]?).getD undef:=by simp[F_,getElem?_def];split<;>simp[*]);rw[hgd]at hr;split at h;(rename_i b0 Xv;cases h;rw[Xv]at hr;have hp:=hr.gC;cases ht:a.tmps[d]? with|none=>rw[ht]at hp;cases hp|some v=>rw[ht]at hp;simp only[c!]at hp;cases hp;simp only;cases b0<;>cases want<;>rfl);(rename_i Xv;cases h;rw[Xv]at hr;cases ht:a.tmps[d]? with|none=>rfl|some v=>rw[ht]at hr;simp only[c!]at hr;cases hr with|xV _ vs=>rfl);cases h;(rename_i hd;cases h;have:yielded ops a.tmps j=none:=by simp[yielded,hoj',hd]);rw[this];rfl;rename_i hoj;cases h;have hoj' :ops[j]? =none:=by rw[<- H?];exact hoj
 have:yielded ops a.tmps j=none:=by simp[yielded,hoj']
 rw[this];rfl
theorem skip_inv{a:Act}{s:St}{nt:Nat}(h:Inv w a s ι Im nt)(d:Option Tmp)(hd: ∀t,d=some t->t<nt):
  Inv w (a.put d undef) { s with env:=fq d (.xV []) s.env } ι Im nt where
 heap:=h.heap
 env:=Kd h.env h.size hd Mb
 nx:=h.nx
 size:=by rw[q2d];exact h.size
 defers:=by rw[E_];exact h.defers
theorem UW{G:GP}{O:xm}(hG:yB P G)(hO:SoundCall P O){nt:Nat}(ops:Array Oper)(hd:Yr nt ops.toList)(Q:Exit->Act->World->Prop):
  ∀(rest:List Oper)(k:Nat),ops.toList.drop k=rest-> ∀{w:World}{ι:yq}{Im:Nat->Prop}{a:Act}{s s' :St},Inv w a s ι Im nt->XJ G O ops.toList rest s=some s' ->
   (∀ a' w',aH w s.heap ι Im nt s' a' w' ->Q .normal a' w')->wpOps P ops Q (q28 k rest.length) a w
 |[],k,_,w,ι,Im,a,s,s',h,hr,hq=>by cases hr;exact hq a w ⟨ι,Im,h,W! _ _ _ _⟩
 |o::rest,k,pH,w,ι,Im,a,s,s',h,hr,hq=>by (have hk:ops.toList[k]? =some o:=by have:=congrArg (fun l=>l[0]?) pH;simpa using this);(have ZG:ops[k]? =some o:=by rw[<- H?];exact hk);(have LB:ops.toList.drop (k+1)=rest:=by have:=congrArg (fun l=>l.drop 1) pH;simpa[q1q]using this);have hdo: ∀t,o.dst=some t->t<nt:=hd o (z6 hk);simp only[h?,q1c,wpOps,ZG];simp only[XJ]at hr;split at hr;{rename_i hg;rw[Wd h.env hg,if_pos rfl];obtain⟨o6,h1,e1⟩:=tM (NT G o.op s.env) h;split at hr;rotate_left;cases hr;rename_i s1 nK;refine .inl (stepO_ok hG hO h1 o hdo nK _ _ fun a' w' aD=>?_);obtain⟨ι2,GC,h2,e2⟩:=aD;exact UW hG hO ops hd Q rest (k+1) LB h2 hr fun a'' w'' h3=>hq a'' w'' (h3.from (e1.trans e2))};rename_i hg;rw[Wd h.env hg,if_neg z?];exact UW hG hO ops hd Q rest (k+1) LB (skip_inv h o.dst hdo) hr fun a'' w'' h3=>hq a'' w'' h3;cases hr
theorem AP{G:GP}{O:xm}(hG:yB P G)(hO:SoundCall P O){nt:Nat}(id:Nat)(ops:Array Oper)(hd:Yr nt ops.toList)
  {a:Act} {s s' :St} (h:Inv w a s ι Im nt) (hr:XJ G O ops.toList ops.toList s=some s') (Q:Exit->Act->World->Prop)
  (hq: ∀a' w',aH w s.heap ι Im nt s' a' w' ->Q .normal a' w'):(Code.region id ops false).wp P Q a w:=by refine wp_region ?_;have:=UW hG hO ops hd Q ops.toList 0 z? h hr hq;rw[M'];simpa using this
end
def xF(L:List Nat)(H H' :qr):Prop:= ∀γ∈L,H'.get γ=H.get γ
section
variable {H H' :qr}
theorem xF.app{A B:List Nat}(h:xF (A++B) H H'):xF A H H' /\xF B H H' :=
 ⟨fun γ hγ=>h γ (by simp[hγ]),fun γ hγ=>h γ (by simp[hγ])⟩
theorem Bs{ti:TI}{a:AV}(h:xF a.refs H H'):QJ ti a H' =QJ ti a H:=by cases a<;>simp only[QJ];rename_i p;cases p<;>rfl;rename_i β o;rw[h β (by simp[O?])];rename_i β v i o;rw[h β (by simp[O?])]
theorem UT{ti:TI}{a v:AV}(h:xF a.refs H H'):og ti a v H' =og ti a v H:=by cases a<;>simp only[og];rename_i β o;rw[h β (by simp[O?])];rename_i β v i o;rw[h β (by simp[O?])]
theorem eI{v:AV}(h:xF v.refs H H'):yI v H' =yI v H:=by cases v with|pv p=>(cases p<;>first|rfl|(rename_i b _ _;cases b<;>rfl))|row β xf off n=>simp only[yI];rw[h β (by simp[O?])]|_=>rfl
theorem Gi{v:AV}(h:xF v.refs H H'):Q4 v H' =Q4 v H:=by cases v with|row β xf off n=>simp only[Q4];rw[h β (by simp[O?])]|_=>rfl
theorem Ky{te:TI}{s x:AV}{nx:Nat}(h1:xF s.refs H H')(h2:xF x.refs H H'):mH te s x H' nx=mH te s x H nx:=rfl
theorem VB{te:TI}{s x:AV}{nx:Nat}(h1:xF s.refs H H')(h2:xF x.refs H H'):uT te s x H' nx=uT te s x H nx:=by unfold uT;rw[eI h2,Ky h1 h2];cases s with|row β xf off n=>simp only;rw[h1 β (by simp[O?])]|pv p=>(cases p<;>first|rfl|(rename_i b _ _;cases b<;>rfl))|_=>rfl
theorem Bn{te:TI}{s x:AV}{nx:Nat}(h1:xF s.refs H H')(h2:xF x.refs H H'):ZM te s x H' nx=ZM te s x H nx:=by unfold ZM;rw[eI h2];cases s with|row β xf off n=>simp only;rw[h1 β (by simp[O?])]|pv p=>(cases p<;>first|rfl|(rename_i b _ _;cases b<;>rfl))|_=>rfl
theorem XD{td:TD}{o0:TypeId->Option TI}{x i:AV}(h:xF x.refs H H'):tG td o0 x i H' =tG td o0 x i H:=by unfold tG;cases x with|row β xf off n=>simp only;rw[h β (by simp[O?])]|pv p=>(cases p<;>first|rfl|(rename_i b _ _;cases b<;>rfl))|_=>rfl
theorem US{td:TD}{o0:TypeId->Option TI}{ρ:Operand->AV}{x:AV}{lo hi mx:Option Operand}(h:xF x.refs H H'):ek td o0 ρ x lo hi mx H' =ek td o0 ρ x lo hi mx H:=by unfold ek;cases x with|row β xf off n=>simp only;rw[h β (by simp[O?])]|pv p=>(cases p<;>first|rfl|(rename_i b _ _;cases b<;>rfl))|_=>rfl
theorem KJ{td:TD}{v:AV}(h:xF v.refs H H'):di td v H' =di td v H:=by unfold di;cases v with|row β xf off n=>simp only;rw[h β (by simp[O?])]|pv p=>(cases p<;>first|rfl|(rename_i b _ _;cases b<;>rfl))|_=>rfl
theorem DL{o0:TypeId->Option TI}{ti:TI}{x y:AV}(h1:xF x.refs H H')(h2:xF y.refs H H'):aEq o0 ti x y H' =aEq o0 ti x y H:=by unfold aEq;split;rfl;rfl;rw[KJ h1,KJ h2]
theorem PK{o0:TypeId->Option TI}{op:BinOp}{ti:TI}{x y:AV}(h1:xF x.refs H H')(h2:xF y.refs H H'):PJ o0 op ti x y H' =PJ o0 op ti x y H:=by have e:aEq o0 ti x y H' =aEq o0 ti x y H:=DL h1 h2;unfold PJ;split;rfl;rfl;split;rfl;rfl;rw[e]
theorem KF{src dst:TD}{dte:TypeId->Option TI}{x:AV}{nx:Nat}(h:xF x.refs H H'):rI src dst dte x H' nx=rI src dst dte x H nx:=by have e:yI x H' =yI x H:=eI h;unfold rI;split<;>first|rfl|(rw [e])
theorem JO{G:GP}{t:TypeId}{x:AV}{nx:Nat}(h:xF x.refs H H'):tX G t x H' nx=tX G t x H nx:=rfl
theorem KI{tk te:TI}{m k:AV}{ok:Bool}(h:xF m.refs H H'):lr tk te m k ok H' =lr tk te m k ok H:=rfl
theorem KK{tk:TI}{m k v:AV}(h:xF m.refs H H'):dZ tk m k v H' =dZ tk m k v H:=rfl
theorem Bp{m:AV}{k:PV}(h:xF m.refs H H'):KH m k H' =KH m k H:=by cases m with|map β=>simp only[KH];rw[h β (by simp[O?])]|pv p=>(cases p<;>first|rfl|(rename_i b _ _;cases b<;>rfl))|_=>rfl
theorem VI{tk te:TI}{m k:AV}{ok:Bool}(h:xF m.refs H H'):aJ tk te m k ok H' =aJ tk te m k ok H:=by cases k with|pv p=>simp only[aJ,Bp h]|_=>rfl
theorem QK{tk:TI}{m k:AV}{v:PV}(h:xF m.refs H H'):rJ tk m k v H' =rJ tk m k v H:=by cases m<;>first|rfl|(cases k<;>first|rfl|(simp only[rJ];rw[h _ (by simp[O?])]))
theorem UR{tk te:TI}{m k:AV}(h:xF m.refs H H'):lq tk te m k H' =lq tk te m k H:=rfl
theorem ZN{m st:AV}{v:PV}(h:xF m.refs H H'):bI m st v H' =bI m st v H:=rfl
theorem VE{tk:TI}{m k:AV}(h:xF m.refs H H'):cj tk m k H' =cj tk m k H:=by cases m<;>first|rfl|(cases k<;>first|rfl|(simp only[cj];rw[h _ (by simp[O?])]))|(rename_i p;cases p<;>first|rfl|(cases k<;>rfl))
theorem PO{x:AV}(h:xF x.refs H H'):Br x H' =Br x H:=by cases x with|row β xf off n=>simp only[Br];rw[h β (by simp[O?])]|map β=>simp only[Br];rw[h β (by simp[O?])]|pv p=>(cases p<;>first|rfl|(rename_i b _ _;cases b<;>rfl))|_=>rfl
theorem KA{e:TypeId}{te:TI}{s x:AV}{nx:Nat}(h1:xF s.refs H H')(h2:xF x.refs H H'):bf e te s x H' nx=bf e te s x H nx:=rfl
theorem Kz{te:TI}{s x:AV}{nx:Nat}(h1:xF s.refs H H')(h2:xF x.refs H H'):nN te s x H' nx=nN te s x H nx:=by unfold nN;rw[Gi h2];cases s with|row β xf off n=>simp only;rw[h1 β (by simp[O?])]|_=>rfl
theorem XE{x:AV}{nx:Nat}(h:xF x.refs H H'):tH x H' nx=tH x H nx:=rfl
theorem QB{el:TypeId}{p x:AV}{nx:Nat}(h:xF p.refs H H'):gy el p x H' nx=gy el p x H nx:=rfl
theorem KD{G:GP}{b:Builtin}{cu:List TypeId}{args:List AV}{nx:Nat}(h:xF (AV.refs.pN args) H H'):rH G b cu args H' nx=rH G b cu args H nx:=by unfold rH;split;have h1:=(xF.app h).1;simp only[PO h1];have h1:=(xF.app h).1;simp only[XE h1];have h1:=(xF.app h).1;simp only[QB h1];rfl;rfl;rename_i s x;have h1:xF s.refs H H' :=fun γ hγ=>h γ (by simp[AV.refs.pN,hγ]);have h2:xF x.refs H H' :=fun γ hγ=>h γ (by simp[AV.refs.pN,hγ]);simp only[VB h1 h2,KA h1 h2,Kz h1 h2];rename_i s x;have h1:xF s.refs H H' :=fun γ hγ=>h γ (by simp[AV.refs.pN,hγ]);have h2:xF x.refs H H' :=fun γ hγ=>h γ (by simp[AV.refs.pN,hγ]);simp only[Bn h1 h2];rename_i m k;have h1:xF m.refs H H' :=fun γ hγ=>h γ (by simp[AV.refs.pN,hγ]);simp only[VE h1];rfl
theorem lX: ∀(n:Nat)(r d:List Nat),xF (nU H n r d) H H' ->nU H' n r d=nU H n r d
 |0,_,_,_=>rfl
 |n+1,[],d,_=>rfl
 |n+1,β::r,d,h=>by simp only[nU]at h |-;by_cases c:Wz d β=true;rw[if_pos c]at h |-;rw[if_pos c];exact lX n r d h;(rw[if_neg c]at h |-;rw[if_neg c];have dK:β∈nU H n (r++(so H β).refs) (d++[β]):=by (have key: ∀(n:Nat)(r d:List Nat)(x:Nat),x∈d->x∈nU H n r d:=by intro n;induction n with|zero=>intro r d x hx;exact hx|succ n ih=>intro r d x hx;cases r with|nil=>exact hx|cons β r=>simp only[nU];split;exact ih _ _ _ hx;exact ih _ _ _ (by simp[hx]));exact key _ _ _ _ z?);(have hb:so H' β=so H β:=by simp only[so,h β dK]);rw[hb];exact lX n _ _ h
theorem lA{L:List Nat}: ∀(l:List Nat),xF l H H' ->pW H' L l=pW H L l
 |[],_=>rfl
 |β::r,h=>by simp only[pW];rw[h β z?,lA r fun γ hγ=>h γ (by simp[hγ])]
theorem WR{g:Nat->Nat}: ∀(i:Nat)(l:List Nat),xF l H H' ->pick H' g i l=pick H g i l
 |_,[],_=>rfl
 |i,β::r,h=>by (simp only[pick];rw[WR (i+1) r fun γ hγ=>h γ (by simp[hγ])];have:so H' β=so H β:=by simp only[so,h β z?]);rw[this]
theorem Ye{roots:List Nat}(h:xF (nU H 400 roots []) H H'):sj H' [] roots=sj H [] roots:=by cases roots with|nil=>rfl|cons β r=>(have h' :xF (nU H 400 ((β::r)++([]:List Nat).flatMap fun β=>(so H β).refs) []) H H' :=by simpa using h);have e:=lX 400 _ _ h';simp only[q1d]at e h';simp only[sj,q1d,e,lA _ h',WR 0 _ h']
theorem Jh{O:xm}{f:FuncId}{args:List AV}{nx:Nat}(h:xF (nU H 400 (AV.refs.pN args) []) H H'):eQ O f args H' nx=eQ O f args H nx:=by unfold eQ;rw[Ye h]
theorem M6{ps:List (Nat×Operand)}{E E' :yp}(h: ∀x∈ps.map (·.2),ev E' x=ev E x): ∀x∈ps,ev E' x.2=ev E x.2:=fun x hx=>h x.2 (N?.2 ⟨x,hx,rfl⟩)
theorem N3{qY:Nat->Option (Nat×Nat)}{E E' :yp}: ∀(l:List (Nat×Operand))(c:List AV),(∀ x∈l,ev E' x.2=ev E x.2)->lG qY (ev E') l c=lG qY (ev E) l c
 |[],_,_=>rfl
 |(i,x)::r,c,h=>by have hx:ev E' x=ev E x:=h (i,x) z?;simp only[lG,hx];split;split;exact N3 r _ fun y hy=>h y (by simp[hy]);rfl;rfl
theorem W5{size:Nat}{E E' :yp}: ∀(l:List (Nat×Operand))(c:List (List PV)),(∀ x∈l,ev E' x.2=ev E x.2)->rL size (ev E') l c=rL size (ev E) l c
 |[],_,_=>rfl
 |(i,x)::r,c,h=>by have hx:ev E' x=ev E x:=h (i,x) z?;simp only[rL,hx];split;split;exact W5 r _ fun y hy=>h y (by simp[hy]);rfl;rfl
theorem Jm{size:Nat}{E E' :yp}: ∀(l:List (Nat×Operand))(c:List (List AV)),(∀ x∈l,ev E' x.2=ev E x.2)->pX size (ev E') l c=pX size (ev E) l c
 |[],_,_=>rfl
 |(i,x)::r,c,h=>by have hx:ev E' x=ev E x:=h (i,x) z?;simp only[pX,hx];split;exact Jm r _ fun y hy=>h y (by simp[hy]);rfl
theorem TV{E E' :yp}(l:List Operand)(h: ∀x∈l,ev E' x=ev E x):l.map (ev E')=l.map (ev E):=List.map_congr_left h
theorem DR{G:GP}{O:xm}{o:Op}{E E' :yp}{nx:Nat}(hE: ∀x∈o.operands,ev E' x=ev E x)(hH:xF (tB o E H) H H'):mD G O o E' H' nx=mD G O o E H nx:=by cases o with|move x=>simp only[mD,hE x (by simp[Op.operands])]|assign x=>simp only[mD,hE x (by simp[Op.operands])]|pick c a b=>simp only[mD,hE c (by simp[Op.operands]),hE a (by simp[Op.operands]),hE b (by simp[Op.operands])]|alloc t=>rfl|box t x=>simp only[mD,hE x (by simp[Op.operands])]|build t ps=>have h:=M6 (ps:=ps.toList) (E:=E) (E' :=E') (fun x hx=>hE x (by simpa[Op.operands]using hx));simp only[mD,KB,N3 _ _ h]|buildSlice t n ps=>have h:=M6 (ps:=ps.toList) (E:=E) (E' :=E') (fun x hx=>hE x (by simpa[Op.operands]using hx));simp only[mD,W5 _ _ h,Jm _ _ h]|load t a=>simp only[mD,hE a (by simp[Op.operands]),Bs hH]|store t a x=>simp only[mD,hE a (by simp[Op.operands]),hE x (by simp[Op.operands]),UT hH]|nilCheck x=>simp only[mD,hE x (by simp[Op.operands])]|binOp op t x y z=>obtain⟨h1,h2⟩:=xF.app hH;simp only[mD,hE x (by simp[Op.operands]),hE y (by simp[Op.operands]),PK h1 h2]|unOp op t x=>simp only[mD,hE x (by simp[Op.operands])]|convert s d x=>simp only[mD,hE x (by simp[Op.operands]),KF hH,JO hH]|makeFunc fn a b=>(cases fn with|func f=>(have h1:=TV a.toList (E:=E) (E' :=E') (fun x hx=>hE x (by simp[Op.operands]at hx |-; exact .inl hx));have h2:=TV b.toList (E:=E) (E' :=E') (fun x hx=>hE x (by simp[Op.operands]at hx |-; exact .inr hx));simp only[mD];generalize a.toList=la at h1;generalize b.toList=lb at h2;cases la<;>cases lb<;>first|rfl|(simp only[h1,h2]))|_=>rfl)|makeMap t r=>cases r<;>rfl|makeSlice t l c=>simp only[mD,hE l (by simp[Op.operands]),hE c (by simp[Op.operands])]|slice t x lo hi mx=>(have hx:=hE x (by simp[Op.operands]);have h1: ∀d,kj (ev E') d lo=kj (ev E) d lo:=fun d=>by cases lo with|none=>rfl|some y=>simp only[kj,hE y (by simp[Op.operands])]);(have h2: ∀d,kj (ev E') d hi=kj (ev E) d hi:=fun d=>by cases hi with|none=>rfl|some y=>simp only[kj,hE y (by simp[Op.operands])]);(have h3: ∀d,kj (ev E') d mx=kj (ev E) d mx:=fun d=>by cases mx with|none=>rfl|some y=>simp only[kj,hE y (by simp[Op.operands])]);(have key: ∀td o0 H,ek td o0 (ev E') (ev E x) lo hi mx H=ek td o0 (ev E) (ev E x) lo hi mx H:=by intro td o0 H;unfold ek;simp only[h1,h2,h3]);simp only[mD,hx,key,US hH]|fieldAddr t x f=>simp only[mD,hE x (by simp[Op.operands])]|field t x f=>simp only[mD,hE x (by simp[Op.operands])]|indexAddr t x i=>simp only[mD,hE x (by simp[Op.operands]),hE i (by simp[Op.operands]),XD hH]|index t x i=>simp only[mD,hE x (by simp[Op.operands]),hE i (by simp[Op.operands])]|lookup t m k ok=>simp only[mD,hE m (by simp[Op.operands]),hE k (by simp[Op.operands]),VI hH,KI hH]|mapUpdate t m k x=>simp only[mD,lu,hE m (by simp[Op.operands]),hE k (by simp[Op.operands]),hE x (by simp[Op.operands]),QK hH,KK hH]|insert t m k x=>simp only[mD,hE m (by simp[Op.operands]),hE k (by simp[Op.operands]),hE x (by simp[Op.operands]),QK hH]|mapEntry t m k=>simp only[mD,hE m (by simp[Op.operands]),hE k (by simp[Op.operands]),UR hH]|entryStore t m st x=>simp only[mD,hE m (by simp[Op.operands]),hE st (by simp[Op.operands]),hE x (by simp[Op.operands]),ZN hH]|extract t i=>simp only[mD,hE t (by simp[Op.operands])]|call c=>(obtain⟨callee,args,cu⟩:=c;have ha:=TV args.toList (E:=E) (E' :=E') (fun x hx=>hE x (by simp[Op.operands,Call.operands];right;simpa using hx));cases callee with|builtin b=>simp only[mD,ha,KD hH]|value f=>have hf:=hE f (by simp[Op.operands,Call.operands]);simp only[mD,hf,ha];simp only[tB]at hH;split;rename_i g hg;rw[hg]at hH;exact Jh hH;rename_i g a b hg;rw[hg]at hH;exact Jh hH;rfl|_=>rfl)|_=>rfl
end
structure Rc where
 E:yp
 H:qr
 nx:Nat
 on:Bool
 v:AV
 ws:List (Nat×qE)
 fm:Nat
 rd:List Nat
def Rc.keys(c:Rc):List Nat:=c.ws.map (·.1)
mutual
theorem PV.Qs: ∀{x y:PV},PV.kD x y=true->x=y:=by
 intro x y h;cases x<;>cases y<;>first|(simp [PV.kD]at h;done)|(simp only[PV.kD,zO,beq_iff_eq,decide_eq_true_eq]at h)
 all_goals first|rfl|(rw [h];done)|(rw [h.1,h.2];done)|(rw [PV.dc h];done)|(rw [h.1.1,h.1.2,PV.ch h.2];done)
theorem PV.dc: ∀{x y:List PV},PV.av x y=true->x=y:=by
 intro x y h;cases x<;>cases y<;>first|(simp [PV.av]at h;done)|rfl|skip
 simp only[PV.av,zO]at h;rw[PV.Qs h.1,PV.dc h.2]
theorem PV.ch: ∀{x y:List (List PV)},PV.cf x y=true->x=y:=by
 intro x y h;cases x<;>cases y<;>first|(simp [PV.cf]at h;done)|rfl|skip
 simp only[PV.cf,zO]at h;rw[PV.dc h.1,PV.ch h.2]
end
theorem AV.Qs{x y:AV}(h:AV.kD x y=true):x=y:=by
 cases x<;>cases y<;>first|(simp [AV.kD]at h;done)|rfl|(simp only[AV.kD,zO,decide_eq_true_eq]at h)
 all_goals first|(rw [PV.Qs h];done)|(obtain ⟨⟨⟨h1,h2⟩,h3⟩,h4⟩:=h;subst h1 h2 h3 h4;rfl)|(obtain ⟨h1,h2⟩:=h;subst h1 h2;rfl)|(subst h;rfl)
theorem AV.dc: ∀{x y:List AV},AV.av x y=true->x=y
 |[],[],_=>rfl
 |[],_::_,h=>by simp[AV.av]at h
 |_::_,[],h=>by simp[AV.av]at h
 |_::_,_::_,h=>by simp only[AV.av,zO]at h;rw[AV.Qs h.1,AV.dc h.2]
theorem AV.ch: ∀{x y:List (List AV)},AV.cf x y=true->x=y
 |[],[],_=>rfl
 |[],_::_,h=>by simp[AV.cf]at h
 |_::_,[],h=>by simp[AV.cf]at h
 |_::_,_::_,h=>by simp only[AV.cf,zO]at h;rw[AV.dc h.1,AV.ch h.2]
theorem qE.Qs{x y:qE}(h:qE.kD x y=true):x=y:=by
 cases x<;>cases y<;>first|(simp [qE.kD]at h;done)|rfl|(simp only[qE.kD,zO,decide_eq_true_eq,beq_iff_eq]at h)
 all_goals first|(rw [AV.dc h];done)|(rw [h.1,AV.dc h.2];done)|(rw [h.1,AV.ch h.2];done)|(rw [h.1.1,h.1.2,PV.ch h.2];done)|(rw [h.1.1.1,h.1.1.2,h.1.2,PV.ch h.2];done)
theorem YN{H:qr}{β:Nat}{b:qE}(h:TN H β b=true):H.get β=some b:=by unfold TN at h;split at h;rename_i c hc;rw[hc,qE.Qs h];cases h
theorem Vi(rd:List Nat): ∀(ws:List (Nat×qE))(H:qr)(x:Nat×qE),x∈trim rd H ws->x∈ws
 |[],H,x,h=>by simp[trim]at h
 |(β,b)::r,H,x,h=>by rw[trim]at h;split at h;exact N' _ (Vi rd r H x h);rcases U?.1 h with rfl|h;exact List.mem_cons_self;exact N' _ (Vi rd r _ x h)
theorem Vg(rd:List Nat): ∀(ws:List (Nat×qE))(H:qr)(γ:Nat),γ∈ws.map (·.1)->γ∈(trim rd H ws).map (·.1)\/ ∃b,H.get γ=some b
 |[],H,γ,h=>by simp at h
 |(β,b)::r,H,γ,h=>by rw[trim];simp only[s?,U?]at h;split;rename_i hc;simp only[zO]at hc;rcases h with rfl|h;exact .inr ⟨_,YN hc.2⟩;exact Vg rd r H γ h;rcases h with rfl|h;exact .inl z?;rcases Vg rd r (H.put β b) γ h with h|⟨c,h⟩;exact .inl (by simp[h]);rw[p!]at h;split at h;rename_i e;exact .inl (by simp[e]);exact .inr ⟨c,h⟩
theorem aV: ∀(ws:List (Nat×qE))(H H' :qr)(γ:Nat),γ∈ws.map (·.1)->(qZ ws H).get γ=(qZ ws H').get γ
 |[],_,_,_,h=>by simp at h
 |(i,b)::r,H,H',γ,h=>by simp only[qZ];by_cases hr:γ∈r.map (·.1);exact aV r _ _ γ hr;(have hi:γ=i:=by simp only[s?,U?]at h;exact h.resolve_right hr);have jz: ∀x∈r,x.1≠γ:=fun x hx e=>hr (by rw[<- e];exact N?.2 ⟨x,hx,rfl⟩);rw[jO r _ γ jz,jO r _ γ jz,p!,p!,if_pos hi,if_pos hi]
theorem Vh(rd:List Nat): ∀(ws:List (Nat×qE))(H H' :qr),xF rd H H' -> ∀γ,(qZ (trim rd H ws) H').get γ=(qZ ws H').get γ
 |[],_,_,_,_=>rfl
 |(β,b)::r,H,H',h,γ=>by rw[trim];split;(rename_i hc;simp only[zO]at hc;have h1:=YN hc.2;have h2:H'.get β=some b:=by rw[h β ((lS rd β).1 hc.1),h1]);rw[Vh rd r H H' h γ];simp only[qZ];by_cases hr:γ∈r.map (·.1);exact aV r _ _ γ hr;have jz: ∀x∈r,x.1≠γ:=fun x hx e=>hr (by rw[<- e];exact N?.2 ⟨x,hx,rfl⟩);rw[jO r _ γ jz,jO r _ γ jz,p!];split;rename_i e;rw[e,h2];rfl;simp only[qZ];refine Vh rd r (H.put β b) (H'.put β b) (fun x hx=>?_) γ;rw[p!,p!,h x hx]
theorem Sf{tm:Bool}{rd:List Nat}{ws:List (Nat×qE)}{H H' :qr}(h:xF rd H H')(γ:Nat):(qZ (eK tm rd H ws) H').get γ=(qZ ws H').get γ:=by cases tm;rfl;exact Vh rd ws H H' h γ
theorem Sg{tm:Bool}{rd:List Nat}{ws:List (Nat×qE)}{H:qr}{x:Nat×qE}(h:x∈eK tm rd H ws):x∈ws:=by cases tm;exact h;exact Vi rd ws H x h
theorem Se{tm:Bool}{rd:List Nat}{ws:List (Nat×qE)}{H:qr}{γ:Nat}(h:γ∈ws.map (·.1)):γ∈(eK tm rd H ws).map (·.1)\/ ∃b,H.get γ=some b:=by cases tm;exact .inl h;exact Vg rd ws H γ h
def nM(G:GP)(O:xm)(all:List Oper)(tm:Bool):List Oper->List Rc->St->St->Prop
 |[],[],s,s' =>s' =s
 |o::r,c::cs,s,s' =>c.E=s.env/\c.H=s.heap/\c.nx=s.nx/\yC all o s.env=some c.on/\
   (c.on=true->(∃ wf,mD G O o.op s.env s.heap s.nx=some (c.v,wf,c.fm)/\c.ws=eK tm c.rd s.heap wf)/\c.rd=tB o.op s.env s.heap)/\
   (c.on=false->c.v= .xV []/\c.ws=[]/\c.fm=s.nx/\c.rd=[])/\nM G O all tm r cs ⟨fq o.dst c.v s.env,qZ c.ws s.heap,c.fm⟩ s'
 |_,_,_,_=>False
def YQ:Nat->List Rc->List (Nat×List Nat×List Nat)->List (Nat×List Nat×List Nat)
 |_,[],log=>log
 |i,c::cs,log=>YQ (i+1) cs (if c.on=true then(i,c.rd,c.keys)::log else log)
theorem lx{G:GP}{O:xm}(all:List Oper){tm:Bool}: ∀{l:List Oper}{i:Nat}{s s' :St}{log:List (Nat×List Nat×List Nat)},fc G O all tm i l s log=some s' ->
  ∃cs,nM G O all tm l cs s s' /\mK (wD [] all) (YQ i cs log)=true
 |[],i,s,s',log,h=>by simp only[fc]at h;split at h<;>cases h;rename_i hc;exact⟨[],rfl,hc⟩
 |o::r,i,s,s',log,h=>by simp only[fc]at h;split at h;rename_i hg;split at h;rename_i v ws nx X0;obtain⟨cs,h1,h2⟩:=lx all h;exact⟨⟨s.env,s.heap,s.nx,true,v,eK tm (tB o.op s.env s.heap) s.heap ws,nx,tB o.op s.env s.heap⟩::cs,⟨rfl,rfl,rfl,hg,fun _=>⟨⟨ws,X0,rfl⟩,rfl⟩,(fun h=>by cases h),h1⟩,h2⟩;cases h;rename_i hg;obtain⟨cs,h1,h2⟩:=lx all h;exact⟨⟨s.env,s.heap,s.nx,false,.xV [],[],s.nx,[]⟩::cs,⟨rfl,rfl,rfl,hg,(fun h=>by cases h),fun _=>⟨rfl,rfl,rfl,rfl⟩,h1⟩,h2⟩;cases h
theorem nM.len{G:GP}{O:xm}{all:List Oper}{tm:Bool}: ∀{l:List Oper}{cs:List Rc}{s s' :St},nM G O all tm l cs s s' ->cs.length=l.length
 |[],[],_,_,_=>rfl
 |[],_::_,_,_,h=>h.elim
 |_::_,[],_,_,h=>h.elim
 |_::r,_::cs,_,_,h=>by simp[nM.len h.2.2.2.2.2.2]
theorem ZR: ∀{l L:List Nat},JU l L=true-> ∀x∈l,x∉L
 |[],L,_,x,hx=>by simp at hx
 |y::r,L,h,x,hx=>by simp only[JU,zO,u_]at h;rcases U?.1 hx with rfl|hx;intro hc;rw[(lS L x).2 hc]at h;simp at h;exact ZR h.2 x hx
def IU(a b:Rc):Prop:=(∀ x∈a.keys,x∉b.rd)/\(∀ x∈a.keys,x∉b.keys)/\ ∀x∈a.rd,x∉b.keys
theorem QM{ms:List Nat}{j:Nat}{rd wr:List Nat}: ∀{l:List (Nat×List Nat×List Nat)},Qg ms j rd wr l=true-> ∀e∈l,ordered ms e.1 j=true\/(JU e.2.2 rd=true/\JU e.2.2 wr=true/\JU e.2.1 wr=true)
 |[],_,e,he=>by simp at he
 |(i,rdi,wri)::r,h,e,he=>by simp only[Qg,zO,z!]at h;rcases U?.1 he with rfl|he;rcases h.1 with h1|⟨⟨h1,h2⟩,h3⟩;exact .inl h1;exact .inr ⟨h1,h2,h3⟩;exact QM h.2 e he
theorem YR{ms:List Nat}: ∀(cs:List Rc)(i:Nat)(log:List (Nat×List Nat×List Nat)),mK ms (YQ i cs log)=true->
  mK ms log=true/\ ∀(b:Nat)(cb:Rc),cs[b]? =some cb->cb.on=true->
   (∀ e∈log,ordered ms e.1 (i+b)=true\/(JU e.2.2 cb.rd=true/\JU e.2.2 cb.keys=true/\JU e.2.1 cb.keys=true))/\
   ∀(a:Nat)(ca:Rc),a<b->cs[a]? =some ca->ca.on=true->ordered ms (i+a) (i+b)=true\/IU ca cb
 |[],i,log,h=>⟨h,z?⟩
 |c::cs,i,log,h=>by (simp only[YQ]at h;obtain⟨h1,h2⟩:=YR cs (i+1) _ h;have hlog:mK ms log=true:=by split at h1;simp only[mK,zO]at h1;exact h1.2;exact h1);refine⟨hlog,fun b cb hb FF=>?_⟩;cases b with|zero=>simp only[c?,ki]at hb;subst hb;rw[if_pos FF]at h1;simp only[mK,zO]at h1;exact⟨fun e he=>QM h1.1 e he,fun a ca ha=>o?⟩|succ b=>simp only[i?]at hb;obtain⟨k1,k2⟩:=h2 b cb hb FF;rw[show i+1+b=i+(b+1)from o?]at k1 k2;refine⟨fun e he=>k1 e (by split<;>simp[he]),fun a ca ha hca hcon=>?_⟩;cases a with|zero=>simp only[c?,ki]at hca;subst hca;rcases k1 (i,c.rd,c.keys) (by rw[if_pos hcon];simp)with h|⟨q1,q2,q3⟩;exact .inl h;exact .inr ⟨ZR q1,ZR q2,ZR q3⟩|succ a=>simp only[i?]at hca;have:=k2 a ca o? hca hcon;rwa[show i+1+a=i+(a+1)from o?]at this
theorem TW{ms:List Nat}{o:Oper}{i:Nat}(h:(Hz ms o).testBit i=true): ∃e∈o.after,Region.binds .any e=true/\(i=e.on\/(ms.getD e.on 0).testBit i=true):=by
 have key: ∀(l:List Edge)(m:Nat),(l.foldl (fun m e=>if Region.binds .any e=true then m ||| (1 <<< e.on) ||| ms.getD e.on 0 else m) m).testBit i=true->
   m.testBit i=true\/ ∃e∈l,Region.binds .any e=true/\(i=e.on\/(ms.getD e.on 0).testBit i=true):=by
  intro l;induction l with
  |nil=>intro m h;exact .inl h
  |cons e l ih=>
   intro m h;simp only[List.foldl_cons]at h;rcases ih _ h with h|⟨e',h1,h2,h3⟩
   ·split at h
    ·rename_i hb;rw[q1u,q1u,Nat.one_shiftLeft,Nat.testBit_two_pow]at h;simp only[z!,decide_eq_true_eq]at h;rcases h with (h|h)|h
     ·exact .inl h
     ·exact .inr ⟨e,z?,hb,.inl h.symm⟩
     exact .inr ⟨e,z?,hb,.inr h⟩
    exact .inl h
   exact .inr ⟨e',by simp[h1],h2,h3⟩
 rcases key o.after.toList 0 h with h|⟨e,h1,h2⟩;simp at h;exact⟨e,by simpa using h1,h2⟩
theorem eD: ∀(os:List Oper)(ms:List Nat)(k:Nat),k<ms.length->(wD ms os).getD k 0=ms.getD k 0
 |[],ms,k,_=>rfl
 |o::r,ms,k,h=>by simp only[wD];rw[eD r _ k v?];simp[r? h]
theorem X7: ∀(os:List Oper)(ms:List Nat)(j:Nat)(o:Oper),os[j]? =some o-> ∃ms' :List Nat,ms'.length=ms.length+j/\(wD ms os).getD (ms.length+j) 0=Hz ms' o/\
  ∀k,k<ms.length+j->ms'.getD k 0=(wD ms os).getD k 0
 |[],ms,j,o,h=>by simp at h
 |o' ::r,ms,j,o,h=>by simp only[wD];cases j with|zero=>simp only[c?,ki]at h;subst h;refine⟨ms,z?, ?_,fun k hk=>?_⟩;rw[eD r _ _ z?];simp;rw[eD r _ k v?];simp at hk;simp[r? hk]|succ j=>simp only[i?]at h;obtain⟨ms',h1,h2,h3⟩:=X7 r (ms++[Hz ms o']) j o h;simp only[List.length_append,List.length_singleton]at h1 h2 h3;rw[show ms.length+1+j=ms.length+(j+1)from o?]at h1 h2 h3;exact⟨ms',h1,h2,h3⟩
def L7(os:List Oper):Bool:=os.zipIdx.all fun x=>x.1.after.toList.all fun e=> !Region.binds .any e || decide (e.on<x.2)
def SC(os:List Oper)(ms:List Nat):Bool:=(E? os.length).all fun j=>(E? j).all fun i=>ordered ms i j || match os[i]?,os[j]? with
 |some x,some y=>x.apart os.toArray y
 |_,_=>true
def XN(os:List Oper):Bool:=L7 os&&SC os (wD [] os)
theorem N8{os:List Oper}(h:L7 os=true){j:Nat}{o:Oper}(ho:os[j]? =some o){e:Edge}(he:e∈o.after)(hb:Region.binds .any e=true):e.on<j:=by have h1:=Z!.1 h (o,j) (by rw[List.mem_zipIdx_iff_getElem?];exact ho);have h2:=Z!.1 h1 e (by simpa using he);simpa[hb]using h2
theorem apart_spec{os:List Oper}{ms:List Nat}(h:SC os ms=true){i j:Nat}{x y:Oper}(EF:i<j)(hx:os[i]? =some x)(hy:os[j]? =some y):ordered ms i j=true\/x.apart os.toArray y=true:=by have hj:j<os.length:=(qF hy).1;have h1:=Z!.1 (Z!.1 h j (by simpa using hj)) i (by simpa using EF);simpa[hx,hy]using h1
def Pw(os:List Oper)(D:Nat->Bool):Prop:= ∀j o,os[j]? =some o->D j=true-> ∀e∈o.after,Region.binds .any e=true->D e.on=true
theorem lB{os:List Oper}(hf:L7 os=true){D:Nat->Bool}(hD:Pw os D): ∀(j:Nat)(o:Oper),os[j]? =some o->
  (∀ e∈o.after,Region.binds .any e=true->D e.on=true)-> ∀i,ordered (wD [] os) i j=true->D i=true:=by intro j;induction j using p? with|_ j ih=>intro o ho VW i hi;obtain⟨ms',h1,h2,h3⟩:=X7 os [] j o ho;simp only[List.length_nil,P?]at h1 h2 h3;unfold ordered at hi;rw[h2]at hi;obtain⟨e,e1,e2,e3⟩:=TW hi;have xJ:=N8 hf ho e1 e2;have hDe:=VW e e1 e2;rcases e3 with rfl|e3;exact hDe;rw[h3 _ xJ]at e3;have P3:e.on<os.length:=Nat.lt_trans xJ (qF ho).1;exact ih e.on xJ os[e.on] (wu P3) (fun e' VR js=>hD e.on _ (wu P3) hDe e' VR js) i e3
def r9:List Oper->List Rc->Nat->(Nat->Bool)->yp->yp
 |o::os,c::cs,i,D,E=>r9 os cs (i+1) D (if D i=true then fq o.dst c.v E else E)
 |_,_,_,_,E=>E
def wv:List Rc->Nat->(Nat->Bool)->qr->qr
 |c::cs,i,D,H=>wv cs (i+1) D (if D i=true then qZ c.ws H else H)
 |[],_,_,H=>H
theorem cF{t:Nat}{D D' :Nat->Bool}: ∀(os:List Oper)(cs:List Rc)(i:Nat)(E E' :yp),(∀ k o,os[k]? =some o->o.dst=some t->D (i+k)=D' (i+k))->E.get t=E'.get t->
  (r9 os cs i D E).get t=(r9 os cs i D' E').get t
 |[],_,_,_,_,_,h=>by simpa[r9]using h
 |_::_,[],_,_,_,_,h=>by simpa[r9]using h
 |o::os,c::cs,i,E,E',hD,h=>by simp only[r9];refine cF os cs (i+1) _ _ (fun k o' ho' hd' =>?_) ?_;have:=hD (k+1) o' (by simpa using ho') hd';rwa[show i+1+k=i+(k+1)from o?];by_cases hd:o.dst=some t;have:=hD 0 o rfl hd;simp only[M?]at this;rw[this];split;rw[ft,ft,if_pos hd,if_pos hd];exact h;(have e1:(if D i=true then fq o.dst c.v E else E).get t=E.get t:=by split;rw[ft,if_neg hd];rfl);(have e2:(if D' i=true then fq o.dst c.v E' else E').get t=E'.get t:=by split;rw[ft,if_neg hd];rfl);rw[e1,e2,h]
theorem ot: ∀(os:List Oper)(cs:List Rc)(i:Nat)(D:Nat->Bool)(E:yp),(∀ k,i<=k->D k=false)->r9 os cs i D E=E
 |[],_,_,_,_,_=>rfl
 |_::_,[],_,_,_,_=>rfl
 |o::os,c::cs,i,D,E,h=>by simp only[r9,h i (jx _),ko,if_false];exact ot os cs (i+1) D E fun k hk=>h k o?
theorem mL: ∀(cs:List Rc)(i:Nat)(D:Nat->Bool)(H:qr),(∀ k,i<=k->D k=false)->wv cs i D H=H
 |[],_,_,_,_=>rfl
 |c::cs,i,D,H,h=>by simp only[wv,h i (jx _),ko,if_false];exact mL cs (i+1) D H fun k hk=>h k o?
theorem W2{t:Nat}{D:Nat->Bool}: ∀(os:List Oper)(cs:List Rc)(i:Nat)(E:yp)(j:Nat)(o:Oper)(c:Rc),os[j]? =some o->cs[j]? =some c->o.dst=some t->D (i+j)=true->
  (∀ k o',j<k->os[k]? =some o' ->o'.dst=some t->D (i+k)=false)->(r9 os cs i D E).get t=c.v
 |[],_,_,_,j,o,c,ho,_,_,_,_=>by simp at ho
 |_::_,[],_,_,j,o,c,_,hc,_,_,_=>by simp at hc
 |o' ::os,c' ::cs,i,E,j,o,c,ho,hc,hd,hD,hl=>by simp only[r9];cases j with|zero=>simp only[c?,ki]at ho hc;subst ho hc;simp only[M?]at hD;rw[hD];simp only[if_true];rw[cF (D' :=fun _=>false) os cs (i+1) _ (fq o'.dst c'.v E) (fun k o2 h2 P1=>?_) rfl,ot _ _ _ _ _ (fun _ _=>rfl),ft,if_pos hd];have:=hl (k+1) o2 o? (by simpa using h2) P1;rwa[show i+1+k=i+(k+1)from o?]|succ j=>simp only[i?]at ho hc;refine W2 os cs (i+1) _ j o c ho hc hd (by rwa[show i+1+j=i+(j+1)from o?]) fun k o2 hk h2 P1=>?_;have:=hl (k+1) o2 o? (by simpa using h2) P1;rwa[show i+1+k=i+(k+1)from o?]
theorem HV(ws:List (Nat×qE)){H H' :qr}{γ:Nat}(h:H.get γ=H'.get γ):(qZ ws H).get γ=(qZ ws H').get γ:=by by_cases hr:γ∈ws.map (·.1);exact aV ws H H' γ hr;have jz: ∀x∈ws,x.1≠γ:=fun x hx e=>hr (by rw[<- e];exact N?.2 ⟨x,hx,rfl⟩);rw[jO ws _ γ jz,jO ws _ γ jz,h]
theorem pw{γ:Nat}{D D' :Nat->Bool}: ∀(cs:List Rc)(i:Nat)(H H' :qr),(∀ k c,cs[k]? =some c->γ∈c.keys->D (i+k)=D' (i+k))->H.get γ=H'.get γ->
  (wv cs i D H).get γ=(wv cs i D' H').get γ
 |[],_,_,_,_,h=>by simpa[wv]using h
 |c::cs,i,H,H',hD,h=>by simp only[wv];refine pw cs (i+1) _ _ (fun k c' GH ZG=>?_) ?_;have:=hD (k+1) c' (by simpa using GH) ZG;rwa[show i+1+k=i+(k+1)from o?];by_cases hd:γ∈c.keys;have:=hD 0 c rfl hd;simp only[M?]at this;rw[this];split;exact HV _ h;exact h;(have jz: ∀x∈c.ws,x.1≠γ:=fun x hx e=>hd (by rw[<- e];exact N?.2 ⟨x,hx,rfl⟩);have e1:(if D i=true then qZ c.ws H else H).get γ=H.get γ:=by split;exact jO _ _ _ jz;rfl);(have e2:(if D' i=true then qZ c.ws H' else H').get γ=H'.get γ:=by split;exact jO _ _ _ jz;rfl);rw[e1,e2,h]
theorem Js{γ:Nat}{D:Nat->Bool}: ∀(cs:List Rc)(i:Nat)(H:qr)(j:Nat)(c:Rc),cs[j]? =some c->γ∈c.keys->D (i+j)=true->
  (∀ k c',j<k->cs[k]? =some c' ->γ∈c'.keys->D (i+k)=false)-> ∀H',(wv cs i D H).get γ=(qZ c.ws H').get γ
 |[],_,_,j,c,hc,_,_,_,_=>by simp at hc
 |c' ::cs,i,H,j,c,hc,hd,hD,hl,H' =>by simp only[wv];cases j with|zero=>simp only[c?,ki]at hc;subst hc;simp only[M?]at hD;rw[hD];simp only[if_true];rw[pw (D' :=fun _=>false) cs (i+1) _ (qZ c'.ws H) (fun k c2 h2 P1=>?_) rfl,mL _ _ _ _ (fun _ _=>rfl)];exact aV _ _ _ _ hd;have:=hl (k+1) c2 o? (by simpa using h2) P1;rwa[show i+1+k=i+(k+1)from o?]|succ j=>simp only[i?]at hc;refine Js cs (i+1) _ j c hc hd (by rwa[show i+1+j=i+(j+1)from o?]) (fun k c2 hk h2 P1=>?_) H';have:=hl (k+1) c2 o? (by simpa using h2) P1;rwa[show i+1+k=i+(k+1)from o?]
def yA(H:qr)(nx:Nat)(e:mC):Prop:=
 (∀ β b,H.get β=some b->β<nx)->nx<=e.2.2/\(∀ x∈e.2.1,x.1<e.2.2)/\ ∀γ,nx<=γ->γ<e.2.2->γ∈e.2.1.map (·.1)
section
variable {H:qr} {nx:Nat}
theorem keys_nil(v:AV):yA H nx (v,[],nx):=fun _=>⟨jx _,z?,fun γ h1 h2=>by simp at h2;omega⟩
theorem cH(v:AV)(b:qE):yA H nx (v,[(nx,b)],nx+1):=fun _=>⟨Nat.le_succ _,z?,fun γ h1 h2=>by simp at h2 |-; omega⟩
theorem lP(v:AV){β:Nat}{b b' :qE}(h:H.get β=some b):yA H nx (v,[(β,b')],nx):=fun hn=>⟨jx _,by simpa using hn β b h,fun γ h1 h2=>by simp at h2;omega⟩
theorem cI{v:Option AV}{e:mC}(h:bG v nx=some e):yA H nx e:=by unfold bG at h;split at h<;>cases h;exact keys_nil _
theorem Ca{v:Option PV}{e:mC}(h:JD v nx=some e):yA H nx e:=by unfold JD at h;split at h<;>cases h;exact keys_nil _
def QI(H:qr)(ws:List (Nat×qE)):Prop:=ws=[]\/ ∃β b b',H.get β=some b/\ws=[(β,b')]
theorem Hu{ws:List (Nat×qE)}(v:AV)(h:QI H ws):yA H nx (v,ws,nx):=by rcases h with rfl|⟨β,b,b',hb,rfl⟩;exact keys_nil _;exact lP _ hb
theorem eY{ws:Option (List (Nat×qE))}{e:mC}(h:my ws nx=some e)(hw: ∀l,ws=some l->QI H l):yA H nx e:=by unfold my at h;split at h<;>cases h;exact Hu _ (hw _ rfl)
theorem Vc{sz β xf i o size:Nat}{vs:List AV}{es:List (List AV)}{l:List (Nat×qE)}{b:qE}(hb:H.get β=some b)(h:Zv sz β xf i o size vs es=some l):QI H l:=by unfold Zv at h;cases h
theorem S9{β xf i o size:Nat}{v:AV}{ds:List Nat}{es:List PV}{lg:Option (Nat×Nat×Nat)}{l:List (Nat×qE)}{b:qE}(hb:H.get β=some b)(h:Jb β xf i o size v ds es lg=some l):QI H l:=by unfold Jb at h;split at h;split at h<;>cases h;exact .inr ⟨_,_,_,hb,rfl⟩;cases h
theorem PR{ti:TI}{a v:AV}{l:List (Nat×qE)}(h:og ti a v H=some l):QI H l:=by unfold og at h;split at h;rotate_left;cases h;split at h;split at h;rename_i hb;split at h<;>cases h;exact .inr ⟨_,_,_,hb,rfl⟩;cases h;split at h;split at h;rename_i hb;split at h;split at h;split at h<;>cases h;exact .inr ⟨_,_,_,hb,rfl⟩;cases h;cases h;rename_i hb;exact Vc hb h;cases h;split at h;rename_i hb;exact Vc hb h;rename_i hb;exact S9 hb h;cases h;cases h
theorem UU{tk:TI}{m k v:AV}{l:List (Nat×qE)}(h:dZ tk m k v H=some l):QI H l:=by unfold dZ at h;cases h
theorem VL{G:GP}{t:TypeId}{m k x:AV}{e:mC}(h:lu G t m k x H nx=some e):yA H nx e:=by unfold lu at h;split at h;split at h;exact eY h fun l hl=>UU hl;cases h;cases h
theorem KE{G:GP}{t:TypeId}{x:AV}{e:mC}(h:tX G t x H nx=some e):yA H nx e:=by unfold tX at h;cases h
theorem Jf{tk:TI}{m k:AV}{v:PV}{l:List (Nat×qE)}(h:rJ tk m k v H=some l):QI H l:=by unfold rJ at h;split at h;split at h;split at h;rename_i hb;split at h<;>cases h<;>exact .inr ⟨_,_,_,hb,rfl⟩;cases h;cases h;cases h
theorem PN{tk te:TI}{m k:AV}{v:AV}{l:List (Nat×qE)}(h:lq tk te m k H=some (v,l)):QI H l:=by unfold lq at h;cases h
theorem JP{m st:AV}{v:PV}{l:List (Nat×qE)}(h:bI m st v H=some l):QI H l:=by unfold bI at h;cases h
theorem Bo{tk:TI}{m k:AV}{l:List (Nat×qE)}(h:cj tk m k H=some l):QI H l:=by unfold cj at h;split at h;split at h<;>cases h;exact .inl rfl;split at h;split at h;rename_i hb;split at h<;>cases h<;>exact .inr ⟨_,_,_,hb,rfl⟩;cases h;cases h;cases h
theorem ZW{te:TI}{s:AV}{src:List (List PV)}{e:mC}(h:jX te s src nx nx (nx+1)=some e):yA H nx e:=by unfold jX at h;split at h;cases h;exact keys_nil _;split at h<;>cases h;exact cH _ _
theorem Hh{te:TI}{s:AV}{src:List (List PV)}{β:Nat}{b:qE}{e:mC}(hb:H.get β=some b)(h:jX te s src β nx nx=some e):yA H nx e:=by unfold jX at h;split at h;cases h;exact keys_nil _;split at h<;>cases h;exact lP _ hb
theorem Vy{te:TI}{s x:AV}{e:mC}(h:mH te s x H nx=some e):yA H nx e:=by unfold mH at h;cases h
theorem UP{te:TI}{s x:AV}{e:mC}(h:uT te s x H nx=some e):yA H nx e:=by unfold uT at h;split at h;exact Vy h;split at h;rotate_left;cases h;split at h;exact ZW h;exact ZW h;split at h;rename_i hb;split at h;exact Hh hb h;cases h;rename_i hb;split at h;split at h<;>cases h<;>exact lP _ hb;cases h;cases h;cases h
theorem PL{te:TI}{s x:AV}{e:mC}(h:ZM te s x H nx=some e):yA H nx e:=by unfold ZM at h;split at h;cases h;split at h;split at h;rename_i hb;split at h<;>cases h;exact lP _ hb;cases h;cases h
theorem VD{src dst:TD}{dte:TypeId->Option TI}{x:AV}{e:mC}(h:rI src dst dte x H nx=some e):yA H nx e:=by unfold rI at h;split at h;cases h;exact keys_nil _;cases h;exact keys_nil _;split at h;split at h;split at h;split at h;split at h<;>cases h;exact keys_nil _;cases h;cases h;cases h;cases h;split at h;split at h;cases h;exact cH _ _;cases h;cases h;cases h
theorem VA{e0:TypeId}{te:TI}{s x:AV}{e:mC}(h:bf e0 te s x H nx=some e):yA H nx e:=by unfold bf at h;cases h
theorem Vz{te:TI}{s x:AV}{e:mC}(h:nN te s x H nx=some e):yA H nx e:=by unfold nN at h;split at h;rotate_left;cases h;split at h;rotate_left;cases h;split at h;rotate_left;cases h;rename_i hb;split at h<;>cases h;exact lP _ hb
theorem NY{e0:TypeId}{te:TI}{s x:AV}{e:mC}(h:orT (uT te s x H nx) (orT (bf e0 te s x H nx) (nN te s x H nx))=some e):yA H nx e:=by cases ha:uT te s x H nx with|some r=>rw[ha]at h;cases h;exact UP ha|none=>rw[ha]at h;cases hb:bf e0 te s x H nx with|some r=>rw[hb]at h;cases h;exact VA hb|none=>rw[hb]at h;exact Vz h
theorem JQ{x:AV}{e:mC}(h:tH x H nx=some e):yA H nx e:=by unfold tH at h;cases h
theorem Z2{el:TypeId}{p x:AV}{e:mC}(h:gy el p x H nx=some e):yA H nx e:=by unfold gy at h;cases h
theorem UO{G:GP}{t:TypeId}{ti:TI}{e:mC}(h:ZL G t ti nx=some e):yA H nx e:=by unfold ZL at h;cases h
theorem VC{G:GP}{b:Builtin}{cu:List TypeId}{args:List AV}{e:mC}(h:rH G b cu args H nx=some e):yA H nx e:=by unfold rH at h;split at h;split at h;split at h;split at h<;>cases h;exact keys_nil _;cases h;cases h;exact JQ h;{split at h;rotate_left;cases h;split at h;rotate_left;cases h;split at h;rotate_left;cases h;split at h;rotate_left;cases h;exact Z2 h};split at h<;>cases h;exact keys_nil _;split at h<;>cases h;exact keys_nil _;split at h;split at h;split at h;exact NY h;cases h;split at h;exact NY h;cases h;cases h;cases h;split at h;split at h;split at h;exact PL h;cases h;cases h;cases h;split at h;split at h;split at h;split at h<;>cases h;rename_i hd;exact Hu _ (Bo hd);cases h;cases h;cases h;cases h
theorem JE(g:Nat->Nat): ∀(H:qr)(i j:Nat),uL i H=true->i<=j->j<i+H.length->g j∈(vW g H).map (·.1)
 |[],i,j,_,h1,h2=>by simp at h2;omega
 |(k,b)::r,i,j,hk,h1,h2=>by simp only[uL,zO,decide_eq_true_eq]at hk;obtain⟨rfl,hk⟩:=hk;simp only[vW,s?,U?];by_cases h:j=k;exact .inl (by rw[h]);exact .inr (JE g r (k+1) j hk o? (by simp only[h?]at h2;omega))
theorem KT{O:xm}{f:FuncId}{args:List AV}{e:mC}(h:eQ O f args H nx=some e):yA H nx e:=by
 unfold eQ at h;split at h;cases h;rename_i L H0 Ze;split at h;cases h;rename_i v H' dw;split at h<;>cases h;rename_i hk;intro hn;obtain⟨hs,_,_⟩:=oM List.nodup_nil Ze;refine⟨Nat.le_add_right _ _,fun x hx=>?_,fun γ h1 h2=>?_⟩;obtain⟨j,_,q2,q3⟩:=dG _ H' 0 hk x hx;rw[q3];by_cases hj:j<L.length;(have a1:L[j]? =some L[j]:=by simp[hj]);(obtain⟨b1,Hk,_⟩:=hs.has _ (z6 a1);have:=hn _ b1 Hk;have e1:jc L nx j=L[j]:=by simp[jc,a1]);simp only[e1];omega;(have e1:jc L nx j=nx+(j-L.length):=by simp[jc,d_ (by omega:L.length<=j)]);simp only[e1];omega;simp only at h2;have:=JE (jc L nx) H' 0 (L.length+(γ-nx)) hk (B! _) o?;have e1:jc L nx (L.length+(γ-nx))=γ:=by simp[jc,d_ (by omega:L.length<=L.length+(γ-nx))];omega
 rwa[e1]at this
theorem Oo{G:GP}{O:xm}{o:Op}{E:yp}{e:mC}(h:mD G O o E H nx=some e):yA H nx e:=by cases o with|move x=>cases h;exact keys_nil _|assign x=>cases h;exact keys_nil _|pick c a b=>simp only[mD]at h;split at h<;>cases h;exact keys_nil _|alloc t=>simp only[mD]at h;split at h;rotate_left;cases h;split at h;exact UO h;cases h;exact cH _ _|box t x=>simp only[mD]at h;split at h;unfold aBox at h;split at h;split at h<;>cases h;exact keys_nil _;cases h;exact cH _ _;cases h|build t ps=>simp only[mD]at h;split at h;exact cI h;cases h|buildSlice t n ps=>simp only[mD]at h;split at h;split at h;split at h;split at h;split at h;split at h<;>cases h;exact cH _ _;split at h<;>cases h;exact cH _ _;cases h;cases h;cases h;cases h|load t a=>simp only[mD]at h;split at h;exact cI h;cases h|store t a x=>simp only[mD]at h;split at h;exact eY h fun l hl=>PR hl;cases h|nilCheck x=>simp only[mD]at h;split at h<;>cases h<;>exact keys_nil _|binOp op t x y z=>simp only[mD]at h;split at h;exact Ca h;cases h|unOp op t x=>exact Ca h|convert s d x=>simp only[mD]at h;split at h;exact KE h;split at h;exact VD h;cases h|makeFunc fn a b=>(cases fn with|func f=>cases h;exact keys_nil _|_=>cases h)|makeMap t r=>(cases r with|none=>simp only[mD]at h;cases h;exact cH _ _|some _=>cases h)|makeSlice t l c=>simp only[mD]at h;split at h;unfold sC at h;split at h;split at h;split at h<;>cases h;exact cH _ _;cases h;cases h;cases h|slice t x lo hi mx=>simp only[mD]at h;split at h;exact cI h;cases h|fieldAddr t x f=>simp only[mD]at h;split at h;exact cI h;cases h|field t x f=>simp only[mD]at h;split at h;split at h;split at h;split at h;exact cI h;cases h;cases h;cases h;cases h|indexAddr t x i=>simp only[mD]at h;split at h;exact cI h;cases h|index t x i=>simp only[mD]at h;split at h;split at h;split at h<;>cases h;exact keys_nil _;split at h;split at h;exact cI h;cases h;cases h;cases h;cases h|lookup t m k ok=>simp only[mD]at h;split at h;exact cI h;cases h|mapUpdate t m k x=>simp only[mD]at h;split at h;exact VL h;split at h;split at h;exact eY h fun l hl=>Jf hl;cases h;cases h|insert t m k x=>simp only[mD]at h;split at h;split at h;exact eY h fun l hl=>Jf hl;cases h;cases h|mapEntry t m k=>simp only[mD]at h;split at h;split at h<;>cases h;rename_i he;exact Hu _ (PN he);cases h|entryStore t m st x=>simp only[mD]at h;split at h;exact eY h fun l hl=>JP hl;cases h|extract t i=>simp only[mD]at h;split at h;split at h<;>cases h;exact keys_nil _;cases h|call c=>(obtain⟨callee,args,cu⟩:=c;cases callee with|builtin b=>exact VC h|value f=>simp only[mD]at h;split at h;exact KT h;exact KT h;cases h|_=>cases h)|_=>cases h
end
def Ex.N2:Ex->Exit
 | .normal=> .normal
 | .ret=> .ret
 | .exit id=> .exit id
structure lp (k:Nat) (w:World) (H:qr) (ι:yq) (Im:Nat->Prop) (w' :World) (H' :qr) (ι' :yq) (jV:Nat->Prop):Prop where
 comp: ∀β b,β<k->H.get β=some b-> ∃b',H'.get β=some b' /\xS b b' (ι β) (ι' β)
 im: ∀b,Im b->jV b
 ta: ∀b,jV b->Im b\/w.heap.size<=b\/ ∃β x,H.get β=some x/\x.yc (ι β) b
 nT: ∀β x z,H'.get β=some x->x.yc (ι' β) z->w.heap.size<=z\/ ∃β0 x0,H.get β0=some x0/\x0.yc (ι β0) z
 kD: ∀b,b<w.heap.size->(∀ β x,H.get β=some x-> ¬x.yc (ι β) b)->w'.heap[b]? =w.heap[b]?
 size:w.heap.size<=w'.heap.size
 io:w'.os=w.os/\w'.output=w.output
theorem wR.toK{w w' :World}{H H' :qr}{ι ι' :yq}{Im jV:Nat->Prop}(h:wR w H ι Im w' H' ι' jV)(k:Nat):lp k w H ι Im w' H' ι' jV:=
 ⟨fun β b _ hb=>h.comp β b hb,h.im,h.ta,h.nT,h.kD,h.size,h.io⟩
theorem lp.full{k:Nat}{w w' :World}{H H' :qr}{ι ι' :yq}{Im jV:Nat->Prop}(h:lp k w H ι Im w' H' ι' jV)(hk: ∀β b,H.get β=some b->β<k):wR w H ι Im w' H' ι' jV:=
 ⟨fun β b hb=>h.comp β b (hk β b hb) hb,h.im,h.ta,h.nT,h.kD,h.size,h.io⟩
theorem lp.trans{k:Nat}{w w1 w2:World}{H H1 H2:qr}{ι ι1 ι2:yq}{Im o6 GC:Nat->Prop}
  (h1:lp k w H ι Im w1 H1 ι1 o6) (h2:lp k w1 H1 ι1 o6 w2 H2 ι2 GC):lp k w H ι Im w2 H2 ι2 GC where
 comp:=fun β b hk h=>by obtain⟨b1,g1,c1⟩:=h1.comp β b hk h;obtain⟨b2,g2,c2⟩:=h2.comp β b1 hk g1;exact⟨b2,g2,ZQ c1 c2⟩
 im:=fun b h=>h2.im b (h1.im b h)
 ta:=fun b h=>by rcases h2.ta b h with h|h|⟨β,x,hx,hu⟩;exact h1.ta b h;exact .inr (.inl (n! h1.size h));rcases h1.nT β x b hx hu with h|⟨β0,x0,g,LH⟩;exact .inr (.inl h);exact .inr (.inr ⟨β0,x0,g,LH⟩)
 nT:=fun β x z h hu=>by rcases h2.nT β x z h hu with h|⟨β0,x0,g,LH⟩;exact .inl (n! h1.size h);exact h1.nT β0 x0 z g LH
 kD:=fun b hb hn=>by
  have e1:=h1.kD b hb hn;have e2:=h2.kD b (U! hb h1.size) (fun β x hx hu=>by
   rcases h1.nT β x b hx hu with h|⟨β0,x0,g,LH⟩
   ·omega
   exact hn β0 x0 g LH)
  exact e2.trans e1
 size:=n! h1.size h2.size
 io:=⟨h2.io.1.trans h1.io.1,h2.io.2.trans h1.io.2⟩
def Z1[xg](k:Nat)(w:World)(H:qr)(ι:yq)(Im:Nat->Prop)(nt:Nat)(s:St)(a:Act)(w' :World):Prop:=
 ∃ι' jV,Inv w' a s ι' jV nt/\lp k w H ι Im w' s.heap ι' jV
theorem Z1.from[xg]{k:Nat}{w:World}{H:qr}{ι:yq}{Im:Nat->Prop}{w1:World}{H1:qr}{ι1:yq}{o6:Nat->Prop}{nt:Nat}{s:St}{a:Act}{w' :World}(h:Z1 k w1 H1 ι1 o6 nt s a w')(he:lp k w H ι Im w1 H1 ι1 o6):
  Z1 k w H ι Im nt s a w' :=
 let⟨ι',jV,h1,h2⟩:=h
 ⟨ι',jV,h1,he.trans h2⟩
def IZ[xg](P:Program)(G:GP)(f:FuncId)(id:Nat)(s:St)(ex:Ex)(s' :St):Prop:=
 ∀fi c,G.fn f=some fi->zH fi.body id=some c->(∀ i,ex= .exit i->i≠id)/\ ∃n,∀(w:World)(ι:yq)(Im:Nat->Prop)(a:Act),Inv w a s ι Im fi.nt->
  Code.rounds P c (fun e a' w' =>e=(match ex with| .exit i=>Exit.exit i| .ret=> .ret| .normal=> .exit id)/\Z1 (s.nx-(G.spec f id).off) w s.heap ι Im fi.nt s' a' w') n a w
structure Sound [xg] (P:Program) (G:GP) (O:xm):Prop extends SoundCall P O where
 loop: ∀f id s ex s',O.loop f id s=some (ex,s')->IZ P G f id s ex s'
def opsOK(nt:Nat)(ops:List Oper):Bool:=ops.all fun o=>match o.dst with|some d=>decide (d<nt)|none=>true
theorem WI{nt:Nat}{ops:List Oper}(h:opsOK nt ops=true):Yr nt ops:=by intro o ho t ht;have:=Z!.1 h o ho;rw[ht]at this;simpa using this
section
variable [xg] {P:Program} {w:World} {H:qr} {ι:yq} {Im:Nat->Prop}
theorem Xl: ∀(E:yp)(l:List Nat)(t:Nat),(restrict E l).get t=if t∈l then E.get t else .undef
 |E,[],t=>by simp[restrict,V!]
 |E,x::r,t=>by simp only[restrict,V!,Xl E r t,U?];by_cases h:x=t;subst h;simp;simp[h,n_ h]
theorem oJ{a:Act}{E:yp}(hE: ∀t,RA w H ι Im (E.get t) (a.tmps.getD t undef))(l:List Nat): ∀t,RA w H ι Im ((restrict E l).get t) (a.tmps.getD t undef):=by intro t;rw[Xl];split;exact hE t;exact .undef _
theorem dH{a:Act}{s:St}{nt:Nat}(h:Inv w a s ι Im nt)(l:List Nat):Inv w a { s with env:=restrict s.env l } ι Im nt:=
 ⟨h.heap,oJ h.env l,h.nx,h.size,h.defers⟩
theorem bF(n:Nat): ∀(H:qr)(γ:Nat),(T' n H).get γ=if γ<n then H.get γ else none
 |[],γ=>by simp[T',A!]
 |(i,b)::r,γ=>by simp only[T'];split;rename_i h;simp only[A!,bF n r γ];by_cases e:i=γ;subst e;simp[h];simp[e];rename_i h;rw[bF n r γ];simp only[A!];by_cases e:i=γ;subst e;simp[h];simp[e]
theorem om(n:Nat): ∀(l:List Nat),cz n l=true↔ ∀x∈l,x<n
 |[]=>by simp[cz]
 |x::r=>by simp[cz,om n r]
theorem iR{H' :qr}{x:AV}{v:Value}(hx:RA w H ι Im x v)(hg: ∀β∈x.refs,∀ b,H.get β=some b->H'.get β=some b):RA w H' ι Im x v:=by
 induction hx with
 |undef v=>exact .undef v
 |pv p v h=>exact .pv p v h
 |ptr β o c hb hk=>exact .ptr β o c (hg β (by simp[O?]) _ hb) hk
 |uI β xf i o b1 o1 b hb jA h=>exact .uI β xf i o b1 o1 b (hg β (by simp[O?]) _ hb) jA h
 |row β xf off n v b ho hb hk jA h=>exact .row β xf off n v b ho (hg β (by simp[O?]) _ hb) hk jA h
 |tU c o b off vs QF hc hf h=>exact .tU c o b off vs QF hc hf h
 |o5 a=>exact .o5 a
 |map β es zR hb=>exact .map β es zR (hg β (by simp[O?]) _ hb)
 |Z5 f a b va vb VT SX _ _ iha ihb=>
  exact .Z5 f a b va vb VT SX (fun i x v h1 h2=>iha i x v h1 h2 fun β hβ=>hg β (by simp only[O?,m?];exact .inl (vV h1 hβ)))
   (fun i x v h1 h2=>ihb i x v h1 h2 fun β hβ=>hg β (by simp only[O?,m?];exact .inr (vV h1 hβ)))
 |agg c vs hl hf _ ih=>exact .agg c vs hl hf fun i x v h1 h2=>ih i x v h1 h2 fun β hβ=>hg β (by simp only[O?];exact vV h1 hβ)
 |xV c vs hl _ ih=>exact .xV c vs hl fun i x v h1 h2=>ih i x v h1 h2 fun β hβ=>hg β (by simp only[O?];exact vV h1 hβ)
theorem Yn: ∀{E:yp}{n:Nat},yp.below n E=true-> ∀t,∀ β∈(E.get t).refs,β<n
 |[],n,_,t,β,h=>by simp[V!,O?]at h
 |(i,v)::r,n,hb,t,β,h=>by simp only[yp.below,zO]at hb;simp only[V!]at h;split at h;exact(om n _).1 hb.1 β h;exact Yn hb.2 t β h
theorem KP: ∀{H:qr}{n:Nat},q24 n H=true-> ∀{γ:Nat}{b:qE},H.get γ=some b-> ∀β∈b.refs,β<n
 |[],n,_,γ,b,h=>by simp[A!]at h
 |(i,c)::r,n,hb,γ,b,h=>by simp only[q24,zO]at hb;simp only[A!]at h;split at h;cases h;exact fun β hβ=>(om n _).1 hb.1 β hβ;exact KP hb.2 h
theorem upto_ok(hi:zc w H ι Im)(n:Nat)(hb:q24 n (T' n H)=true):zc w (T' n H) ι Im where
 Na:=hi.Na
 VP:=hi.VP
 rB:=fun γ b h=>by
  rw[bF]at h;split at h;rotate_left;cases h
  rename_i xJ;have h0:=hi.rB γ b h;have hrefs: ∀β∈b.refs,β<n:=KP hb (γ:=γ) (by rw[bF,if_pos xJ];exact h);cases b with
   |box c=>obtain⟨vs,elem,fz,q1,q2,q3,q4,q5⟩:=h0;refine⟨vs,elem,fz,q1,q2,q3,q4,fun i x v a b=>iR (q5 i x v a b) fun β hβ b' js=>?_⟩;rw[bF,if_pos (hrefs β (by simp only[q1b];exact vV a hβ))];exact js
   |row qu sz es=>cases qu<;>exact h0
   |map es zR=>exact h0
   |mB sz es=>
    obtain⟨vs,elem,fz,q1,q2,q3,q4,q5,q6,q7,q8⟩:=h0;refine⟨vs,elem,fz,q1,q2,q3,q4,q5,q6,q7,fun i e j x a b=>?_⟩;obtain⟨v,k1,k2⟩:=q8 i e j x a b;refine⟨v,k1,iR k2 fun β hβ b' js=>?_⟩;rw[bF,if_pos (hrefs β (by
     simp only[q1b,List.mem_flatMap]
     exact⟨e,z6 a,vV b hβ⟩))]
    exact js
   |jf qu ds es lg=>cases qu with|true=>exact h0|false=>obtain⟨vs,elem,fz,q1,q2,q3,q4,q5,q6,q7,q8,q9⟩:=h0;refine⟨vs,elem,fz,q1,q2,q3,q4,q5,q6,q7,q8,fun i p k a b=>?_⟩;obtain⟨v,k1,k2,k3⟩:=q9 i p k a b;refine⟨v,k1,k2,fun γ' xf hf=>⟨(k3 γ' xf hf).1,iR (k3 γ' xf hf).2 fun δ hδ c hc=>?_⟩⟩;simp only[O?,List.mem_singleton]at hδ;subst hδ;rw[bF,if_pos (hrefs _ (by simp[q1b,hf]))];exact hc
   |xw=>trivial
 inj:=fun γ γ' b b' z h h' u u' =>by rw[bF]at h h';split at h;rotate_left;cases h;split at h';rotate_left;cases h';exact hi.inj γ γ' b b' z h h' u u'
 im:=hi.im
 Vt:=fun γ b z h hu=>by rw[bF]at h;split at h;exact hi.Vt γ b z h hu;cases h
theorem YW{a:Act}{nt:Nat}{s0 s s' :St}{w0:World}{ι0:yq}{Qy:Nat->Prop}(h:Inv w a s ι Im nt)
  (GJ: ∀β b,s0.heap.get β=some b->β<s0.nx) (he:wR w0 s0.heap ι0 Qy w s.heap ι Im) (l:List Nat) (hr:narrow l s0.nx s=some s'):
  Inv w a s' ι Im nt/\wR w0 s0.heap ι0 Qy w s'.heap ι Im:=by unfold narrow at hr;simp only at hr;split at hr<;>cases hr;rename_i hc;simp only[zO]at hc;refine⟨⟨upto_ok h.heap _ hc.2,fun t=>?_,fun β b hb=>?_,h.size,h.defers⟩,⟨fun β b hb=>?_,he.im,he.ta,fun γ x z hx hu=>?_,he.kD,he.size,he.io⟩⟩;refine iR (oJ h.env l t) fun β hβ b hb=>?_;rw[bF,if_pos (Yn hc.1 t β hβ)];exact hb;simp only[bF]at hb;split at hb;assumption;cases hb;obtain⟨b',q1,q2⟩:=he.comp β b hb;exact⟨b',by simp only[bF];rw[if_pos (GJ β b hb)];exact q1,q2⟩;simp only[bF]at hx;split at hx;exact he.nT γ x z hx hu;cases hx
theorem NR{a:Act}{nt:Nat}{s0 s:St}{w0:World}{ι0:yq}{Qy:Nat->Prop}(h:Inv w a s ι Im nt)
  (GJ: ∀β b,s0.heap.get β=some b->β<s0.nx) (he:wR w0 s0.heap ι0 Qy w s.heap ι Im) (l:List Nat):
  Inv w a (i9 l s0.nx s) ι Im nt/\wR w0 s0.heap ι0 Qy w (i9 l s0.nx s).heap ι Im:=by unfold i9;split;rename_i s' oQ;exact YW h GJ he l oQ;exact⟨dH h l,he⟩
theorem Mr(g:Nat->Nat): ∀(E:yp)(t:Nat),(RK g E).get t=(E.get t).cq g
 |[],t=>by simp[RK,V!,AV.cq]
 |(i,v)::r,t=>by simp only[RK,V!];split;rfl;exact Mr g r t
theorem Ur: ∀{E:yp}{t β:Nat},β∈(E.get t).refs->β∈Uq E
 |[],t,β,h=>by simp[V!,O?]at h
 |(i,v)::r,t,β,h=>by simp only[V!]at h;simp only[Uq,m?];split at h;exact .inl h;exact .inr (Ur h)
theorem Uf(m:Nat)(r:List Nat){β:Nat}(h:β<m):(E? m++r)[β]? =some β:=by rw[r? (by simpa using h)];simp[h]
theorem KU{a:Act}{nt:Nat}{s s' :St}(h:Inv w a s ι Im nt)(l:List Nat)(n:Nat)(hr:canon l n s=some s'):
  ∃ι',Inv w a s' ι' Im nt/\lp n w s.heap ι Im w s'.heap ι' Im:=by unfold canon at hr;split at hr<;>cases hr;rename_i L H' Ze;obtain⟨hs,Wm,rr,hL⟩:=oM q1e Ze;refine⟨Zw ι L,⟨hs.hinv h.heap,fun t=>?_,fun β b hb=>?_,h.size,h.defers⟩,⟨fun β b hk hb=>?_,fun _ h=>h,fun _ h=> .inl h,fun γ x z hx hu=>?_,fun _ _ _=>rfl,jx _,⟨rfl,rfl⟩⟩⟩;rw[Mr];exact Zn _ (oJ h.env l t) fun β hβ b hb=>hs.BT (Wm β (Ur hβ)) b hb;obtain⟨γ,b0,q1,_⟩:=hs.inv (ι:=ι) hb;have:=(qF q1).1;show β<H'.length;rw[hs.len];exact this;(have hl:L[β]? =some β:=by rw[hL];exact Uf n rr hk);(refine⟨b.cq (pos L),by rw[hs.look,hl];simp[hb], ?_⟩;have:Zw ι L β=ι β:=by simp[Zw,hl]);rw[this];exact Ji (pos L) (uU b (ι β));obtain⟨β,b0,h1,h2,rfl,h4⟩:=hs.inv (ι:=ι) hx;rw[qE.nZ,h4]at hu;exact .inr ⟨β,b0,h2,hu⟩
theorem V1: ∀(E:yp)(n:Nat)(x:AV)(t:Nat),(setEnv E n x).get t=if t=n then x else E.get t
 |[],n,x,t=>by simp only[setEnv,V!];by_cases h:n=t;simp[h];simp[h,n_ h]
 |(i,v)::r,n,x,t=>by simp only[setEnv];split;rename_i h;subst h;simp only[V!];by_cases h2:i=t;simp[h2];simp[h2,n_ h2];rename_i h;simp only[V!,V1 r n x t];by_cases h2:i=t;subst h2;simp[h];simp[h2]
theorem q0F(hi:zc w H ι Im){nx:Nat}(xY: ∀β b,H.get β=some b->β<nx):
  zc w (H.put nx (.row true 0 [])) (jY ι nx ⟨0,0,[]⟩) Im/\wR w H ι Im w (H.put nx (.row true 0 [])) (jY ι nx ⟨0,0,[]⟩) Im:=by have hf:=Wb (X:=fun _=>False) (fun β b h=> .inl (xY β b h)) id;exact zc.put (Xx:=NV hf) hi nx (.row true 0 []) ⟨0,0,[]⟩ (fun x hx=>by rw[hf]at hx;cases hx) ⟨jx _,rfl,rfl⟩ (fun _ _ _=>rfl) (fun h=>by cases h) (fun _=>rfl)
theorem U0{H' :qr}{nx:Nat}(hg:H'.get nx=some (.row true 0 []))(ι' :yq):RA w H' ι' Im (.row nx 0 0 0) (.slice none 0 0):=
 .row nx 0 0 0 _ _ rfl hg (fun _=>⟨_,_,_,rfl⟩) (fun _ _ _ e=>by cases e;exact jx _) fun _ _ _ e _=>by cases e;exact⟨jx _,z?⟩
theorem U1{sz:Nat}{v:Value}(h:RA w H ι Im (.pv (.sl true sz [])) v):v= .slice none 0 0:=by have:=h.gC;cases this;rfl
theorem fp{a:Act}{nt:Nat}: ∀(l:List Nat){ι:yq}{s:St},Inv w a s ι Im nt->
  ∃ι',Inv w a (kc l s) ι' Im nt/\wR w s.heap ι Im w (kc l s).heap ι' Im
 |[],ι,s,h=>⟨ι,h,W! _ _ _ _⟩
 |t::r,ι,s,h=>by simp only[kc];split;(rename_i sz ht;obtain⟨h1,e1⟩:=q0F h.heap h.nx;have hv:a.tmps.getD t undef= .slice none 0 0:=U1 (ht ▸ h.env t);have hinv:Inv w a { env:=setEnv s.env t (.row s.nx 0 0 0),heap:=q_ s.heap s.nx (.row true 0 []),nx:=s.nx+1 } (jY ι s.nx ⟨0,0,[]⟩) Im nt:=by refine⟨h1,fun t' =>?_,fun β b hb=>?_,h.size,h.defers⟩;simp only[V1];split;rename_i e;subst e;rw[hv];exact U0 (by simp[p!]) _;exact(h.env t').mono h.heap e1;simp only[p!]at hb;split at hb;rename_i e;subst e;exact q1k _;have:=h.nx β b hb;exact V_ this);obtain⟨ι',h2,e2⟩:=fp r hinv;exact⟨ι',h2,e1.trans e2⟩;exact fp r h
theorem bU{a:Act}{nt:Nat}: ∀(l:List (Nat×Nat)){ι:yq}{s:St},Inv w a s ι Im nt->
  ∃ι',Inv w a (xe l s) ι' Im nt/\wR w s.heap ι Im w (xe l s).heap ι' Im
 |[],ι,s,h=>⟨ι,h,W! _ _ _ _⟩
 |(t,k)::r,ι,s,h=>by
  simp only[xe];split;rotate_left;exact bU r h;rename_i β o ht;split;rotate_left;exact bU r h;rename_i c hb;split;rotate_left;exact bU r h;(rename_i sz hc;obtain⟨h1,e1⟩:=q0F h.heap h.nx;have hβ:β≠s.nx:=fun e=>by have:=h.nx β _ hb;omega);have Hk:(q_ s.heap s.nx (.row true 0 [])).get β=some (.box c):=by simp[p!,hβ,hb]
  obtain⟨h2,e2⟩:=zc.put (Xx:=noO Hk rfl) (w' :=w) h1 β (.box (c.set (o+k) (.row s.nx 0 0 0))) (jY ι s.nx ⟨0,0,[]⟩ β) (fun x hx=>by rw[Hk]at hx;cases hx;rfl) ⟨jx _,rfl,rfl⟩ (fun _ _ _=>rfl)
   (fun _=> .inr ⟨_,Hk,rfl,rfl⟩) (fun he=>by
    obtain⟨vs,elem,fz,q1,q2,q3,q4,q5⟩:=h1.box Hk
    refine⟨vs,elem,fz,by simpa using q1,q2,by simpa using q3,fun x hx=>?_,fun i x v hx hv=>?_⟩
    ·rcases List.mem_or_eq_of_mem_set hx with hx|rfl
     ·exact q4 x hx
     rfl
    rw[List.getElem?_set]at hx
    split at hx
    ·rename_i e
     subst e
     split at hx<;>cases hx
     have:=q5 (o+k) _ v hc hv
     rw[U1 this]
     refine U0 ?_ _
     simp[p!,n_ hβ]
    exact(q5 i x v hx hv).mono h1 he)
  (have hinv:Inv w a { env:=s.env,heap:=q_ (q_ s.heap s.nx (.row true 0 [])) β (.box (c.set (o+k) (.row s.nx 0 0 0))),nx:=s.nx+1 } (jY (jY ι s.nx ⟨0,0,[]⟩) β (jY ι s.nx ⟨0,0,[]⟩ β)) Im nt:=by refine⟨h2,fun t' =>(h.env t').mono h.heap (e1.trans e2),fun γ b hγ=>?_,h.size,h.defers⟩;simp only[p!]at hγ;split at hγ;rename_i e;subst e;have:=h.nx γ _ hb;exact V_ this;split at hγ;rename_i e;subst e;exact q1k _;have:=h.nx γ b hγ;exact V_ this);obtain⟨ι',h3,e3⟩:=bU r hinv;exact⟨ι',h3,(e1.trans e2).trans e3⟩
theorem L1{a:Act}{nt:Nat}{s:St}(sp:pF)(h:Inv w a s ι Im nt):
  ∃ι' jV,Inv w a (enter sp s) ι' jV nt/\wR w s.heap ι Im w (enter sp s).heap ι' jV:=by unfold enter;obtain⟨ι1,h1,e1⟩:=fp sp.kc h;obtain⟨ι2,h2,e2⟩:=bU sp.xe h1;obtain⟨Im3,h3,e3⟩:=tM (dq (xe sp.xe (kc sp.kc s)).env (xe sp.xe (kc sp.kc s)).heap sp.freeze) h2;exact⟨ι2,Im3,dH h3 sp.XZ,(e1.trans e2).trans e3⟩
theorem lp.Hx{k k' :Nat}{w w' :World}{H H' :qr}{ι ι' :yq}{Im jV:Nat->Prop}(h:lp k w H ι Im w' H' ι' jV)(hk:k' <=k):lp k' w H ι Im w' H' ι' jV:=
 ⟨fun β b h1 h2=>h.comp β b o? h2,h.im,h.ta,h.nT,h.kD,h.size,h.io⟩
theorem Z1.Hx[xg]{k k' :Nat}{w:World}{H:qr}{ι:yq}{Im:Nat->Prop}{nt:Nat}{s:St}{a:Act}{w' :World}(h:Z1 k w H ι Im nt s a w')(hk:k' <=k):Z1 k' w H ι Im nt s a w' :=
 let⟨ι',jV,h1,h2⟩:=h
 ⟨ι',jV,h1,h2.Hx hk⟩
theorem Fg{a:Act}{nt:Nat}{s s1:St}(sp:pF)(h:Inv w a s ι Im nt)(hr:ez sp s=some s1):
  ∃ι' jV,Inv w a s1 ι' jV nt/\lp (s1.nx-sp.off) w s.heap ι Im w s1.heap ι' jV/\(∀ β b,s.heap.get β=some b->β<s1.nx-sp.off):=by
 obtain⟨ι1,o6,h1,e1⟩:=L1 sp h;have plain:s1=enter sp s->sp.off=0-> ∃ι' jV,Inv w a s1 ι' jV nt/\lp (s1.nx-sp.off) w s.heap ι Im w s1.heap ι' jV/\(∀ β b,s.heap.get β=some b->β<s1.nx-sp.off):=by rintro rfl h0;refine⟨ι1,o6,h1,e1.toK _,fun β b hb=>?_⟩;obtain⟨b',q1,_⟩:=e1.comp β b hb;have:=h1.nx β b' q1;omega
 unfold ez at hr;split at hr;rename_i hg;cases hr;exact plain rfl (by simp[q25,hg]);rename_i hg;have l7:sp.off=sp.own:=by simp[q25,hg]
 split at hr;rename_i h0;cases hr;exact plain rfl o?;rename_i k h0;split at hr;rotate_left;cases hr;rename_i s2 EK;split at hr<;>cases hr;rename_i hn;obtain⟨ι2,h2,e2⟩:=KU h1 sp.XZ s.nx EK;have:s1.nx-sp.off=s.nx:=o?;rw[this];exact⟨ι2,o6,h2,(e1.toK _).trans e2,h.nx⟩
theorem Oj{a:Act}{nt:Nat}{s0 s s' :St}{w0:World}{ι0:yq}{Qy:Nat->Prop}(sp:pF)(h:Inv w a s ι Im nt)
  (GJ: ∀β b,s0.heap.get β=some b->β<s0.nx) (he:wR w0 s0.heap ι0 Qy w s.heap ι Im) (hr:again sp s0.nx s=some s'):
  ∃ι',Inv w a s' ι' Im nt/\lp (s0.nx-sp.off) w0 s0.heap ι0 Qy w s'.heap ι' Im/\s0.nx-sp.off<=s'.nx-sp.off:=by
 unfold again at hr;split at hr;rename_i hg;unfold bh at hr;split at hr<;>cases hr;rename_i hn;obtain⟨ι1,h1,e1⟩:=fp sp.kc h;obtain⟨ι2,h2,e2⟩:=bU sp.xe h1;exact⟨ι2,dH h2 sp.XZ,((he.trans e1).trans e2).toK _,Nat.sub_le_sub_right hn _⟩;rename_i hg;have l7:sp.off=sp.own:=by simp[q25,hg]
 split at hr;rename_i h0;obtain⟨h2,e2⟩:=YW h GJ he _ hr;refine⟨ι,h2,e2.toK _, ?_⟩;unfold narrow at hr;simp only at hr;split at hr<;>cases hr;exact jx _;rename_i k h0;split at hr;rotate_left;cases hr;rename_i s2 EK;split at hr<;>cases hr;rename_i hn;obtain⟨ι1,h1,e1⟩:=fp sp.kc h;obtain⟨ι2,h2,e2⟩:=bU sp.xe h1;obtain⟨ι3,h3,e3⟩:=KU h2 sp.XZ _ EK;rw[l7,h0];exact⟨ι3,h3,(((he.trans e1).trans e2).toK _).trans e3,o?⟩
theorem Wv{a:Act}{nt:Nat}{s0 s s' :St}{w0:World}{ι0:yq}{Qy:Nat->Prop}(sp:pF)(h:Inv w a s ι Im nt)
  (GJ: ∀β b,s0.heap.get β=some b->β<s0.nx) (he:wR w0 s0.heap ι0 Qy w s.heap ι Im) (hr:leave sp s0.nx s=some s'):
  ∃ι',Inv w a s' ι' Im nt/\lp (s0.nx-sp.off) w0 s0.heap ι0 Qy w s'.heap ι' Im:=by
 unfold leave at hr;split at hr;cases hr;exact⟨ι,dH h sp.out,he.toK _⟩;rename_i hg;have l7:sp.off=sp.own:=by simp[q25,hg]
 split at hr;cases hr;obtain⟨h2,e2⟩:=NR h GJ he sp.out;exact⟨ι,h2,e2.toK _⟩;rename_i k h0;obtain⟨ι3,h3,e3⟩:=KU h sp.out _ hr;rw[l7,h0];exact⟨ι3,h3,(he.toK _).trans e3⟩
theorem XX{ex ex' :Ex}{o:Option St}{s:St}(h:left ex o=some (ex',s)):o=some s/\ex' =ex:=by unfold left at h;split at h<;>cases h;exact⟨rfl,rfl⟩
end
section
variable [xg] {P:Program} {w:World} {H:qr} {ι:yq} {Im:Nat->Prop}
theorem RA.ext{H' :qr}(h: ∀γ,H'.get γ=H.get γ){x:AV}{v:Value}(hx:RA w H ι Im x v):RA w H' ι Im x v:=
 iR hx fun β _ b hb=>by rw[h];exact hb
theorem zc.ext{H' :qr}(h: ∀γ,H'.get γ=H.get γ)(hi:zc w H ι Im):zc w H' ι Im where
 Na:=hi.Na
 VP:=hi.VP
 rB:=fun β b hb=>by rw[h]at hb;have h0:=hi.rB β b hb;cases b with|box c=>obtain⟨vs,elem,fz,q1,q2,q3,q4,q5⟩:=h0;exact⟨vs,elem,fz,q1,q2,q3,q4,fun i x v a b=>(q5 i x v a b).ext h⟩|row qu sz es=>cases qu<;>exact h0|map es zR=>exact h0|mB sz es=>obtain⟨vs,elem,fz,q1,q2,q3,q4,q5,q6,q7,q8⟩:=h0;exact⟨vs,elem,fz,q1,q2,q3,q4,q5,q6,q7,fun i e j x a b=>(q8 i e j x a b).imp fun v k=>⟨k.1,k.2.ext h⟩⟩|jf qu ds es lg=>(cases qu with|true=>exact h0|false=>obtain⟨vs,elem,fz,q1,q2,q3,q4,q5,q6,q7,q8,q9⟩:=h0;refine⟨vs,elem,fz,q1,q2,q3,q4,q5,q6,q7,q8,fun i p k a b=>?_⟩;obtain⟨v,k1,k2,k3⟩:=q9 i p k a b;exact⟨v,k1,k2,fun γ' xf hf=>⟨(k3 γ' xf hf).1,(k3 γ' xf hf).2.ext h⟩⟩)|xw=>trivial
 inj:=fun β β' b b' z h1 h2=>hi.inj β β' b b' z (by rw[<- h];exact h1) (by rw[<- h];exact h2)
 im:=hi.im
 Vt:=fun β b z hb=>hi.Vt β b z (by rw[<- h];exact hb)
theorem wR.ext{w0:World}{H0 H' :qr}{ι0:yq}{Qy:Nat->Prop}(h: ∀γ,H'.get γ=H.get γ)(he:wR w0 H0 ι0 Qy w H ι Im):wR w0 H0 ι0 Qy w H' ι Im where
 comp:=fun β b hb=>by obtain⟨b',q1,q2⟩:=he.comp β b hb;exact⟨b',by rw[h];exact q1,q2⟩
 im:=he.im
 ta:=he.ta
 nT:=fun β x z hx=>he.nT β x z (by rw[<- h];exact hx)
 kD:=he.kD
 size:=he.size
 io:=he.io
structure At (G:GP) (O:xm) (all:List Oper) (tm:Bool) (os:List Oper) (cs:List Rc) (i:Nat) (s:St) (j:Nat) (o:Oper) (c:Rc):Prop where
 env:c.E=r9 os cs i (fun k=>decide (k<i+j)) s.env
 heap:c.H=wv cs i (fun k=>decide (k<i+j)) s.heap
 guard:yC all o c.E=some c.on
 on:c.on=true->(∃ wf,mD G O o.op c.E c.H c.nx=some (c.v,wf,c.fm)/\c.ws=eK tm c.rd c.H wf)/\c.rd=tB o.op c.E c.H
 off:c.on=false->c.v= .xV []/\c.ws=[]/\c.fm=c.nx/\c.rd=[]
 nx:s.nx<=c.nx
 bd: ∀β b,c.H.get β=some b->β<c.nx
 fm:c.nx<=c.fm
 keys:(∀ x∈c.keys,x<c.fm)/\ ∀γ,c.nx<=γ->γ<c.fm->γ∈c.keys
theorem Rj: ∀(ws:List (Nat×qE)){H:qr}{γ:Nat}{b:qE},(qZ ws H).get γ=some b->γ∈ws.map (·.1)\/H.get γ=some b
 |ws,H,γ,b,h=>by by_cases hr:γ∈ws.map (·.1);exact .inl hr;have jz: ∀x∈ws,x.1≠γ:=fun x hx e=>hr (by rw[<- e];exact N?.2 ⟨x,hx,rfl⟩);rw[jO ws _ γ jz]at h;exact .inr h
theorem KV{G:GP}{O:xm}{all:List Oper}{tm:Bool}{o:Oper}{r:List Oper}{c:Rc}{cs:List Rc}{s s' :St}(h:nM G O all tm (o::r) (c::cs) s s')(hb: ∀β b,s.heap.get β=some b->β<s.nx):
  s.nx<=c.fm/\(∀ x∈c.keys,x<c.fm)/\(∀ γ,s.nx<=γ->γ<c.fm->γ∈c.keys)/\ ∀β b,(qZ c.ws s.heap).get β=some b->β<c.fm:=by
 obtain⟨_,_,_,_,h5,h6,_⟩:=h;have key:s.nx<=c.fm/\(∀ x∈c.ws,x.1<c.fm)/\ ∀γ,s.nx<=γ->γ<c.fm->γ∈c.ws.map (·.1):=by cases FF:c.on with|true=>obtain⟨⟨wf,h8,h9⟩,_⟩:=h5 FF;obtain⟨g1,g2,g3⟩:=Oo h8 hb;rw[h9];refine⟨g1,fun x hx=>g2 x (Sg hx),fun γ a b=>?_⟩;rcases Se (tm:=tm) (rd:=c.rd) (H:=s.heap) (g3 γ a b)with h|⟨b',h⟩;exact h;have:=hb γ b' h;omega|false=>obtain⟨_,e2,e3,_⟩:=h6 FF;rw[e2,e3];exact⟨jx _,z?,fun γ a b=>o?⟩
 obtain⟨k1,k2,k3⟩:=key;refine⟨k1,fun x hx=>?_,k3,fun β b hβ=>?_⟩;obtain⟨y,hy,rfl⟩:=N?.1 hx;exact k2 y hy;rcases Rj _ hβ with h|h;obtain⟨y,hy,rfl⟩:=N?.1 h;exact k2 y hy;have:=hb β b h;omega
theorem ZP{G:GP}{O:xm}{all:List Oper}{tm:Bool}: ∀{os:List Oper}{cs:List Rc}{s s' :St},nM G O all tm os cs s s' ->(∀ β b,s.heap.get β=some b->β<s.nx)-> ∀(i j:Nat)(o:Oper)(c:Rc),os[j]? =some o->cs[j]? =some c->
  At G O all tm os cs i s j o c
 |[],_,_,_,_,_,_,_,_,_,ho,_=>by simp at ho
 |_::_,[],_,_,h,_,_,_,_,_,_,_=>h.elim
 |o' ::os,c' ::cs,s,s',h,hb,i,j,o,c,ho,hc=>by obtain⟨k1,k2,k3,k4⟩:=KV h hb;obtain⟨h1,h2,h3,h4,h5,h6,h7⟩:=h;cases j with|zero=>simp only[c?,ki]at ho hc;subst ho hc;refine⟨?_, ?_,by rw[h1];exact h4,by rw[h1,h2,h3];exact h5,by rw[h3];exact h6,by rw[h3];exact jx _,by rw[h2,h3];exact hb,by rw[h3];exact k1,k2,by rw[h3];exact k3⟩;rw[ot _ _ _ _ _ fun k hk=>by simpa using hk,h1];rw[mL _ _ _ _ fun k hk=>by simpa using hk,h2]|succ j=>(simp only[i?]at ho hc;have:=ZP h7 k4 (i+1) j o c ho hc;have e:(fun k=>decide (k<i+(j+1)))=fun k=>decide (k<i+1+j):=by funext k;rw[show i+(j+1)=i+1+j from o?]);refine⟨?_, ?_,this.guard,this.on,this.off,n! k1 this.nx,this.bd,this.fm,this.keys⟩;rw[this.env,e];simp only[r9];rw[if_pos v?];rw[this.heap,e];simp only[wv];rw[if_pos v?]
theorem XM{G:GP}{O:xm}{all:List Oper}{tm:Bool}: ∀{os:List Oper}{cs:List Rc}{s s' :St},nM G O all tm os cs s s' ->(∀ β b,s.heap.get β=some b->β<s.nx)-> ∀(i:Nat),
  s'.env=r9 os cs i (fun _=>true) s.env/\s'.heap=wv cs i (fun _=>true) s.heap/\s.nx<=s'.nx/\(∀ β b,s'.heap.get β=some b->β<s'.nx)/\
   (∀(j:Nat)(c:Rc),cs[j]? =some c->s.nx<=c.nx/\c.fm<=s'.nx)/\ ∀(a b:Nat)(ca cb:Rc),a<b->cs[a]? =some ca->cs[b]? =some cb->ca.fm<=cb.nx
 |[],[],s,s',h,hb,i=>by have h' :s' =s:=h;subst h';exact⟨rfl,rfl,jx _,hb,z?,z?⟩
 |[],_::_,_,_,h,_,_=>h.elim
 |_::_,[],_,_,h,_,_=>h.elim
 |o::os,c::cs,s,s',h,hb,i=>by obtain⟨k1,k2,k3,k4⟩:=KV h hb;obtain⟨h1,h2,h3,h4,h5,h6,h7⟩:=h;obtain⟨q1,q2,q3,q4,q5,q6⟩:=XM h7 k4 (i+1);refine⟨?_, ?_,n! k1 q3,q4,fun j c' GH=>?_,fun a b ca cb eL ha js=>?_⟩;rw[q1];simp[r9];rw[q2];simp[wv];(cases j with|zero=>simp only[c?,ki]at GH;subst GH;exact⟨by rw[h3];exact jx _,q3⟩|succ j=>simp only[i?]at GH;obtain⟨r1,r2⟩:=q5 j c' GH;simp only at r1;exact⟨n! k1 r1,r2⟩);cases b with|zero=>omega|succ b=>simp only[i?]at js;cases a with|zero=>simp only[c?,ki]at ha;subst ha;exact(q5 b cb js).1|succ a=>simp only[i?]at ha;exact q6 a b ca cb o? ha js
def DB(nt:Nat)(os:List Oper)(cs:List Rc)(s:St)(w0:World)(ι0:yq)(Qy:Nat->Prop)(D:Nat->Bool)(a:Act)(w:World):Prop:=
 ∃ι Im,zc w (wv cs 0 D s.heap) ι Im/\(∀ t,RA w (wv cs 0 D s.heap) ι Im ((r9 os cs 0 D s.env).get t) (a.tmps.getD t undef))/\nt<=a.tmps.size/\a.defers=[]/\
  wR w0 s.heap ι0 Qy w (wv cs 0 D s.heap) ι Im
def sy(D:Nat->Bool)(j:Nat):Nat->Bool:=fun k=>decide (k=j) || D k
theorem q0c{ops:Array Oper}{o:Oper}{E E' :yp}(h: ∀t∈o.looksAt ops,E'.get t=E.get t):(∀ x∈o.op.operands,ev E' x=ev E x)/\yC ops.toList o E' =yC ops.toList o E:=by constructor;(intro x hx;cases x with|tmp t=>refine h t ?_;unfold Oper.looksAt;refine List.mem_append_left _ (List.mem_filterMap.2 ⟨.tmp t,by simpa using hx,rfl⟩)|_=>rfl);unfold yC;cases hg:o.guard with|none=>rfl|some g=>obtain⟨j,want⟩:=g;simp only;cases hj:ops.toList[j]? with|none=>rfl|some oj=>simp only;cases hd:oj.dst with|none=>rfl|some d=>(simp only;rw[h d];unfold Oper.looksAt;refine List.mem_append_right _ ?_;rw[hg];have:ops[j]? =some oj:=by rw[<- H?];exact hj);simp[this,hd]
theorem step_ok{G:GP}{O:xm}(hG:yB P G)(hO:SoundCall P O){nt:Nat}{ops:Array Oper}(hd:Yr nt ops.toList)(hdr:XN ops.toList=true){cs:List Rc}{s s' :St}{tm:Bool}
  (VQ:nM G O ops.toList tm ops.toList cs s s') (Fw: ∀β b,s.heap.get β=some b->β<s.nx) (Xw:mK (wD [] ops.toList) (YQ 0 cs [])=true)
  {w0:World} {ι0:yq} {Qy:Nat->Prop} {D:Nat->Bool} (hD:Pw ops.toList D) {j:Nat} {o:Oper} (ho:ops.toList[j]? =some o) (hj:D j=false)
  (VW: ∀e∈o.after,Region.binds .any e=true->D e.on=true) {a:Act} {w:World} (h:DB nt ops.toList cs s w0 ι0 Qy D a w) (Q:Exit->Act->World->Prop):
  wpOp P ops Q j (DB nt ops.toList cs s w0 ι0 Qy (sy D j)) a w:=by
 simp only[XN,zO]at hdr;obtain⟨hfwd,To⟩:=hdr;have hlen:=VQ.len;have Vr:j<cs.length:=by rw[hlen];exact(qF ho).1
 obtain⟨c,hc⟩: ∃c,cs[j]? =some c:=⟨_,wu Vr⟩;have Tp:=ZP VQ Fw 0 j o c ho hc;obtain⟨_,_,_,_,hnxs,hnxp⟩:=XM VQ Fw 0;have hord:=(YR cs 0 [] Xw).2;have ahead: ∀i,ordered (wD [] ops.toList) i j=true->D i=true:=lB hfwd hD j o ho VW;have behind: ∀k,k<ops.toList.length->ordered (wD [] ops.toList) j k=true->D k=false:=fun k hk Vq=>by cases P0:D k with|false=>rfl|true=>have:=lB hfwd hD k ops.toList[k] (wu hk) (fun e he hb=>hD k _ (wu hk) P0 e he hb) j Vq;rw[hj]at this;cases this
 have harr:ops.toList.toArray=ops:=z?;have hlook: ∀t∈o.looksAt ops,(r9 ops.toList cs 0 D s.env).get t=c.E.get t:=by intro t ht;rw[Tp.env];refine cF _ _ _ _ _ (fun k ok hk hdk=>?_) rfl;simp only[P?];have pf:=(qF hk).1;rcases E! k j with xJ|rfl|P4;rw[decide_eq_true xJ];rcases apart_spec To xJ hk ho with h1|h1;exact ahead k h1;rw[harr]at h1;exact absurd ht ((Oper.apart_spec h1).1 t hdk);simpa using hj;rw[decide_eq_false o?];rcases apart_spec To P4 ho hk with h1|h1;exact behind k pf h1;rw[harr]at h1;exact absurd ht ((Oper.apart_spec h1).2.2 t hdk)
 obtain⟨hevs,hguard⟩:=q0c hlook;obtain⟨ι,Im,hi,JY,mr,Nd,hevo⟩:=h;have Ts: ∀(k:Nat)(ck:Rc),cs[k]? =some ck->D k=true->j<k->c.on=true->ck.on=true->IU c ck:=fun k ck hk P0 Vq h1 h2=>by rcases(hord k ck hk h2).2 j c Vq hc h1 with h3|h3;simp only[P?]at h3;have:=behind k (by rw[<- hlen];exact(qF hk).1) h3;rw[P0]at this;cases this;exact h3
 have Le: ∀(k:Nat)(ck:Rc),cs[k]? =some ck->D k=false->k<j->c.on=true->ck.on=true->IU ck c:=fun k ck hk P0 Vq h1 h2=>by rcases(hord j c hc h1).2 k ck Vq hk h2 with h3|h3;simp only[P?]at h3;rw[ahead k h3]at P0;cases P0;exact h3
 have ZZ: ∀(k:Nat)(ck:Rc),cs[k]? =some ck->ck.on=false->ck.keys=[]:=fun k ck hk l7=>by (have pf:k<ops.toList.length:=by rw[<- hlen];exact(qF hk).1);have:=(ZP VQ Fw 0 k _ ck (wu pf) hk).off l7;unfold Rc.keys;rw[this.2.1];rfl
 have henv' : ∀t,(r9 ops.toList cs 0 (sy D j) s.env).get t=(fq o.dst c.v (r9 ops.toList cs 0 D s.env)).get t:=by intro t;rw[ft];by_cases hdt:o.dst=some t;rw[if_pos hdt];refine W2 _ _ _ _ j o c ho hc hdt (by simp[sy]) fun k ok hk dn hdk=>?_;simp only[P?,sy];rw[decide_eq_false o?,q1v];rcases apart_spec To hk ho dn with h1|h1;exact behind k (qF dn).1 h1;rw[harr]at h1;exact absurd hdk ((Oper.apart_spec h1).2.1 t hdt);(rw[if_neg hdt];refine cF _ _ _ _ _ (fun k ok hk hdk=>?_) rfl;simp only[P?,sy];have:k≠j:=fun e=>by subst e;rw[ho]at hk;cases hk;exact hdt hdk);simp[this]
 have Lj: ∀γ,(wv cs 0 (sy D j) s.heap).get γ=(qZ c.ws (wv cs 0 D s.heap)).get γ:=by intro γ;by_cases hk:γ∈c.keys;(refine Js cs 0 s.heap j c hc hk (by simp[sy]) (fun k ck Vq Nb JZ=>?_) _;simp only[P?,sy];rw[decide_eq_false o?,q1v];cases P0:D k with|false=>rfl|true=>(exfalso;have FF:c.on=true:=by cases h1:c.on with|true=>rfl|false=>rw[ZZ j c hc h1]at hk;simp at hk);(have FG:ck.on=true:=by cases h1:ck.on with|true=>rfl|false=>rw[ZZ k ck Nb h1]at JZ;simp at JZ);exact(Ts k ck Nb P0 Vq FF FG).2.1 γ hk JZ);(have jz: ∀x∈c.ws,x.1≠γ:=fun x hx e=>hk (by rw[<- e];exact N?.2 ⟨x,hx,rfl⟩);rw[jO _ _ _ jz];refine pw _ _ _ _ (fun k ck Nb JZ=>?_) rfl;simp only[P?,sy];have:k≠j:=fun e=>by subst e;rw[hc]at Nb;cases Nb;exact hk JZ);simp[this]
 have ho' :ops[j]? =some o:=by rw[<- H?];exact ho
 have hdo: ∀t,o.dst=some t->t<nt:=hd o (z6 ho);unfold wpOp;rw[ho'];simp only;have hgd:yC ops.toList o (r9 ops.toList cs 0 D s.env)=some c.on:=by rw[hguard];exact Tp.guard
 rw[Wd JY hgd];cases FF:c.on with|false=>(rw[if_neg z?];obtain⟨e1,e2,e3,e4⟩:=Tp.off FF;have hh: ∀γ,(wv cs 0 (sy D j) s.heap).get γ=(wv cs 0 D s.heap).get γ:=fun γ=>by rw[Lj γ,e2];rfl);refine⟨ι,Im,hi.ext hh,fun t=>?_,by rw[q2d];exact mr,by rw[E_];exact Nd,hevo.ext hh⟩;rw[henv' t,e1];exact(Kd JY mr hdo Mb t).ext hh|true=>(rw[if_pos rfl];refine .inl ?_;obtain⟨⟨wf,e1,e1'⟩,e2⟩:=Tp.on FF;have hag:xF (tB o.op c.E c.H) c.H (wv cs 0 D s.heap):=by (intro γ hγ;rw[Tp.heap];refine pw _ _ _ _ (fun k ck Nb JZ=>?_) rfl;simp only[P?];have FG:ck.on=true:=by cases h1:ck.on with|true=>rfl|false=>rw[ZZ k ck Nb h1]at JZ;simp at JZ);rcases E! k j with xJ|rfl|P4;(rw[decide_eq_true xJ];cases P0:D k with|true=>rfl|false=>exact absurd (e2 ▸ hγ) ((Le k ck Nb P0 xJ FF FG).1 γ JZ));simpa using hj;rw[decide_eq_false o?];cases P0:D k with|false=>rfl|true=>exact absurd JZ ((Ts k ck Nb P0 P4 FF FG).2.2 γ (e2 ▸ hγ)));(have X0:mD G O o.op (r9 ops.toList cs 0 D s.env) (wv cs 0 D s.heap) c.nx=some (c.v,wf,c.fm):=by rw[DR hevs hag];exact e1);(have Tr: ∀γ,(wv cs 0 (sy D j) s.heap).get γ=(qZ wf (wv cs 0 D s.heap)).get γ:=fun γ=>by rw[Lj γ,e1'];exact Sf (by rw[e2];exact hag) γ);(have hX:Bd (fun γ=>c.fm<=γ) (wv cs 0 D s.heap) c.nx:=by intro β b hb;by_cases h1:β<c.nx;exact .inl h1;by_cases h2:c.fm<=β;exact .inr h2;(exfalso;have dK:β∈c.keys:=Tp.keys.2 β o? o?;have YE:(wv cs 0 D s.heap).get β=s.heap.get β:=by rw[pw (D' :=fun _=>false) cs 0 s.heap s.heap (fun k ck Nb JZ=>?_) rfl,mL _ _ _ _ fun _ _=>rfl];simp only[P?];cases P0:D k with|false=>rfl|true=>(exfalso;have pf:k<ops.toList.length:=by rw[<- hlen];exact(qF Nb).1);(have hatk:=ZP VQ Fw 0 k _ ck (wu pf) Nb;have FG:ck.on=true:=by cases h1:ck.on with|true=>rfl|false=>rw[ZZ k ck Nb h1]at JZ;simp at JZ);rcases E! k j with xJ|rfl|P4;have h3:=hatk.keys.1 β JZ;have h4:=hnxp k j ck c xJ Nb hc;omega;rw[hj]at P0;cases P0;exact(Ts k ck Nb P0 P4 FF FG).2.1 β dK JZ);rw[YE]at hb;have h3:=Fw β b hb;have h4:=Tp.nx;omega);refine q0M hG hO hi JY hX o X0 (fun γ h=>h) _ Q fun u w' ι' jV q1 q2 q3 q4=>?_;refine⟨ι',jV,q1.ext Tr,fun t=>?_,by rw[q2d];exact mr,by rw[E_];exact Nd,(hevo.trans q2).ext Tr⟩;rw[henv' t];exact(Kd (fun t=>(JY t).mono hi q2) mr hdo q3 t).ext Tr
theorem Jo{p p' :Nat->Bool}{j:Nat}: ∀(l:List Nat),(∀ x,p' x=true->p x=true)->j∈l->p j=true->p' j=false->(l.filter p').length<(l.filter p).length
 |[],_,hj,_,_=>by simp at hj
 |x::r,hp,hj,h1,h2=>by (have hle: ∀(l:List Nat),(l.filter p').length<=(l.filter p).length:=by intro l;induction l with|nil=>simp|cons y r ih=>simp only[T!];cases h:p' y with|true=>rw[hp y h];simp;exact ih|false=>cases p y<;>simp<;>omega);simp only[T!];rcases U?.1 hj with rfl|hj;rw[h1,h2];have:=hle r;simp;omega;have ih:=Jo r hp hj h1 h2;cases h:p' x with|true=>rw[hp x h];simp;exact ih|false=>cases p x<;>simp<;>omega
theorem any_ok{G:GP}{O:xm}(hG:yB P G)(hO:SoundCall P O){nt:Nat}{ops:Array Oper}(hd:Yr nt ops.toList)(hdr:XN ops.toList=true){cs:List Rc}{s s' :St}{tm:Bool}
  (VQ:nM G O ops.toList tm ops.toList cs s s') (Fw: ∀β b,s.heap.get β=some b->β<s.nx) (Xw:mK (wD [] ops.toList) (YQ 0 cs [])=true)
  {w0:World} {ι0:yq} {Qy:Nat->Prop} (Q:Exit->Act->World->Prop) (hq: ∀a w,DB nt ops.toList cs s w0 ι0 Qy (fun _=>true) a w->Q .normal a w):
  ∀(fuel:Nat)(u9:Array Bool)(a:Act)(w:World),u9.size=ops.size->Pw ops.toList (fun k=>u9.getD k false)->
   ((E? ops.size).filter fun k=> !u9.getD k false).length<=fuel->DB nt ops.toList cs s w0 ι0 Qy (fun k=>u9.getD k false) a w->wpAny P .any ops Q fuel u9 a w:=by
 have hfull: ∀(D:Nat->Bool)(a:Act)(w:World),(∀ k,k<ops.size->D k=true)->DB nt ops.toList cs s w0 ι0 Qy D a w->DB nt ops.toList cs s w0 ι0 Qy (fun _=>true) a w:=by
  intro D a w hD ⟨ι,Im,h1,h2,h3,h4,h5⟩;have hh: ∀γ,(wv cs 0 (fun _=>true) s.heap).get γ=(wv cs 0 D s.heap).get γ:=fun γ=>
   pw _ _ _ _ (fun k ck Nb _=>by
    have:k<ops.size:=by have:=VQ.len;have:=(qF Nb).1;simp at *; omega
    simp[hD k this]) rfl
  refine⟨ι,Im,h1.ext hh,fun t=>?_,h3,h4,h5.ext hh⟩;rw[cF (D' :=D) _ _ _ _ s.env (fun k ok dn _=>by
    have:k<ops.size:=by have:=(qF dn).1;simpa using this
    simp[hD k this]) rfl]
  exact(h2 t).ext hh
 intro fuel;induction fuel with|zero=>((intro u9 a w mr hcld hf h;have Lb: ∀k,k<ops.size->u9.getD k false=true:=by intro k hk;have h0:((E? ops.size).filter fun k=> !u9.getD k false)=[]:=List.length_eq_zero_iff.1 o?;have:=List.filter_eq_nil_iff.1 h0 k (by simpa using hk);simpa using this);refine⟨?_,hq a w (hfull _ a w Lb h)⟩;cases hr:Region.ready .any ops u9 with|nil=>rfl|cons i r=>(exfalso;have hi:i∈Region.ready .any ops u9:=by rw[hr];simp);obtain⟨h1,o,ho,_⟩:=mem_ready.1 hi;have xJ:i<ops.size:=(H!.1 ho).1;have h2:=Lb i xJ;simp[mr,xJ]at h1 h2;rw[h1]at h2;cases h2)|succ fuel ih=>intro u9 a w mr hcld hf h;refine⟨fun hr=>?_,fun i hi=>?_⟩;(refine hq a w (hfull _ a w ?_ h);intro k;induction k using p? with|_ k GK=>intro hk;cases hD:u9.getD k false with|true=>rfl|false=>(exfalso;have pf:k<ops.toList.length:=by simpa using hk);(have sG:k∈Region.ready .any ops u9:=by refine mem_ready.2 ⟨?_,ops[k],by simp[hk],fun e he hb=>?_⟩;simp[mr,hk]at hD |-;exact hD;have xJ:=N8 (by simp only[XN,zO]at hdr;exact hdr.1) (wu pf) (by simpa using he) hb;exact GK e.on xJ o?);rw[hr]at sG;simp at sG);(obtain⟨h1,o,ho,h2⟩:=mem_ready.1 hi;have xJ:i<ops.size:=(H!.1 ho).1;have ho' :ops.toList[i]? =some o:=by rw[H?];exact ho);(have hDi:u9.getD i false=false:=by simp[mr,xJ]at h1 |-;exact h1);(have px:(fun k=>(u9.setIfInBounds i true).getD k false)=sy (fun k=>u9.getD k false) i:=by funext k;simp only[sy];by_cases hk:k=i;subst hk;simp[mr,xJ];simp[hk,Array.getElem?_setIfInBounds_ne (n_ hk)]);refine wpOp_mono (fun a' w' h' =>?_) (step_ok hG hO hd hdr VQ Fw Xw hcld ho' hDi h2 h Q);refine ih (u9.setIfInBounds i true) a' w' (by simpa using mr) ?_ ?_ (by rw[px];exact h');rw[px];intro j oj hoj hDj e he hb;simp only[sy,z!,decide_eq_true_eq]at hDj |-;rcases hDj with rfl|hDj;rw[ho']at hoj;cases hoj;exact .inr (h2 e he hb);exact .inr (hcld j oj hoj hDj e he hb);have:=Jo (p:=fun k=> !u9.getD k false) (p' :=fun k=> !(u9.setIfInBounds i true).getD k false) (j:=i) (E? ops.size) (fun x hx=>?_) (by simpa using xJ) (by simpa using hDi) ?_;omega;have X1:(u9.setIfInBounds i true).getD x false=sy (fun k=>u9.getD k false) i x:=congrFun px x;rw[X1]at hx;simp only[sy,u_,Bool.or_eq_false_iff]at hx;simp only[hx.2,Bool.not_false];have X1:(u9.setIfInBounds i true).getD i false=sy (fun k=>u9.getD k false) i i:=congrFun px i;rw[X1];simp[sy]
theorem RJ{G:GP}{O:xm}(hm:P.follows .mixedOrders=true)(hG:yB P G)(hO:SoundCall P O){nt:Nat}(id:Nat)(ops:Array Oper)(hd:Yr nt ops.toList)(hdr:XN ops.toList=true)
  {a:Act} {s s' :St} (h:Inv w a s ι Im nt) {tm:Bool} (hr:fc G O ops.toList tm 0 ops.toList s []=some s') (Q:Exit->Act->World->Prop)
  (hq: ∀a' w',aH w s.heap ι Im nt s' a' w' ->Q .normal a' w'):(Code.region id ops true).wp P Q a w:=by
 obtain⟨cs,VQ,Xw⟩:=lx ops.toList hr;obtain⟨q1,q2,q3,q4,_,_⟩:=XM VQ h.nx 0;refine wp_region_any hm ?_;have Tq:({ w with drawn:=w.drawn+1 }:World).heap=w.heap:=rfl;have YE:(fun k=>(b_ ops.size false).getD k false)=fun _=>false:=by funext k;simp[Array.getElem?_replicate];split<;>rfl
 refine any_ok hG hO hd hdr VQ h.nx Xw (w0:=w) (ι0:=ι) (Qy:=Im) Q (fun a' w' h' =>?_) ops.size _ a _ z? ?_ ?_ ?_;obtain⟨ι',jV,p1,p2,p3,p4,p5⟩:=h';rw[<- q2]at p1 p2 p5;rw[<- q1]at p2;exact hq a' w' ⟨ι',jV,⟨p1,p2,q4,p3,p4⟩,p5⟩;rw[YE];intro j o _ hj;cases hj;have:=List.length_filter_le (fun k=> !(b_ ops.size false).getD k false) (E? ops.size);simpa using this;rw[YE];refine⟨ι,Im, ?_,fun t=>?_,h.size,h.defers, ?_⟩;rw[mL _ _ _ _ fun _ _=>rfl];exact h.heap.bP Tq ⟨rfl,rfl⟩;rw[mL _ _ _ _ fun _ _=>rfl,ot _ _ _ _ _ fun _ _=>rfl];exact(h.env t).bP Tq ⟨rfl,rfl⟩ h.heap;rw[mL _ _ _ _ fun _ _=>rfl];exact wR.bP Tq ⟨rfl,rfl⟩
end
def yD:Code->List Nat
 | .seq a b=>yD a++yD b
 | .block id (.loop c)=>id::yD c
 | .block _ c=>yD c
 | .cond _ a b=>yD a++yD b
 | .loop c=>yD c
 |_=>[]
def lf(id:Nat)(b:Code):Code->Prop
 | .seq x y=>lf id b x\/lf id b y
 | .block i (.loop c)=>(i=id/\c=b)\/lf id b c
 | .block _ c=>lf id b c
 | .cond _ x y=>lf id b x\/lf id b y
 | .loop c=>lf id b c
 |_=>False
theorem HF{id:Nat}{b:Code}: ∀{c:Code},lf id b c->id∈yD c:=by
 intro c;fun_induction yD c with
 |case1 x y Zg XU=>
  intro h;simp only[lf]at h;simp only[m?];exact h.imp Zg XU
 |case2 i c ih=>
  intro h;simp only[lf]at h;rcases h with ⟨rfl,_⟩|h
  ·simp
  simp[ih h]
 |case3 i c hc ih=>
  intro h;refine ih ?_;cases c<;>first|exact absurd rfl (hc _)|exact h
 |case4 o x y Zg XU=>
  intro h;simp only[lf]at h;simp only[m?];exact h.imp Zg XU
 |case5 c ih=>
  intro h;exact ih (by simpa only[lf]using h)
 |case6 c h1 h2 h3 h4 h5=>
  intro h;cases c<;>simp_all [lf]
theorem QQ{id:Nat}: ∀{c:Code},id∉yD c->zH c id=none:=by
 intro c;fun_induction yD c with
 |case1 x y Zg XU=>
  intro h;simp only[m?,not_or]at h;simp[zH,Zg h.1,XU h.2]
 |case2 i c ih=>
  intro h;simp only[U?,not_or]at h;simp[zH,ih h.2,n_ h.1]
 |case3 i c hc ih=>
  intro h;have:=ih h;cases c<;>first|exact absurd rfl (hc _)|exact this
 |case4 o x y Zg XU=>
  intro h;simp only[m?,not_or]at h;simp[zH,Zg h.1,XU h.2]
 |case5 c ih=>
  intro h;simpa only[zH]using ih h
 |case6 c h1 h2 h3 h4 h5=>
  intro h;cases c<;>simp_all [zH]
theorem H5{id:Nat}{b:Code}: ∀{c:Code},(yD c).Nodup->lf id b c->zH c id=some b:=by
 intro c;fun_induction yD c with
 |case1 x y Zg XU=>
  intro hn h;rw[j!]at hn;simp only[lf]at h;simp only[zH];rcases h with h|h
  ·rw[Zg hn.1 h]
  have h1:id∉yD x:=fun hx=>hn.2.2 id hx id (HF h) rfl;rw[QQ h1];exact XU hn.2.1 h
 |case2 i c ih=>
  intro hn h;rw[List.nodup_cons]at hn;simp only[lf]at h;simp only[zH];rcases h with ⟨rfl,rfl⟩|h
  ·simp
  have:i≠id:=fun e=>hn.1 (e ▸ HF h);rw[if_neg this];exact ih hn.2 h
 |case3 i c hc ih=>
  intro hn h;cases c<;>first|exact absurd rfl (hc _)|exact ih hn h
 |case4 o x y Zg XU=>
  intro hn h;rw[j!]at hn;simp only[lf]at h;simp only[zH];rcases h with h|h
  ·rw[Zg hn.1 h]
  have h1:id∉yD x:=fun hx=>hn.2.2 id hx id (HF h) rfl;rw[QQ h1];exact XU hn.2.1 h
 |case5 c ih=>
  intro hn h;simpa only[zH]using ih hn (by simpa only[lf]using h)
 |case6 c h1 h2 h3 h4 h5=>
  intro hn h;cases c<;>simp_all [lf]
def gB(nt:Nat):Code->Bool
 | .region _ ops d=>opsOK nt ops.toList&&(!d || XN ops.toList)
 | .seq a b=>gB nt a&&gB nt b
 | .cond _ a b=>gB nt a&&gB nt b
 | .block _ c=>gB nt c
 | .loop c=>gB nt c
 |_=>true
section
variable [xg] {P:Program} {w:World} {H:qr} {ι:yq} {Im:Nat->Prop}
theorem SK{G:GP}{O:xm}(hm:P.follows .mixedOrders=true)(hG:yB P G)(hO:Sound P G O)(f:FuncId)(fi:FI)(XP:G.fn f=some fi)(EI:(yD fi.body).Nodup):
  ∀(c:Code),gB fi.nt c=true->(∀ id b,lf id b c->lf id b fi.body)-> ∀{w:World}{ι:yq}{Im:Nat->Prop}{a:Act}{s s' :St}{ex:Ex},Inv w a s ι Im fi.nt->
   exec G O f c s=some (ex,s')->c.wp P (fun e a' w' =>e=ex.N2/\aH w s.heap ι Im fi.nt s' a' w') a w:=by
 intro c;induction c with
  |skip=>intro _ _ w ι Im a s s' ex h hr;simp only[exec,ki,Prod.mk.injEq]at hr;obtain⟨rfl,rfl⟩:=hr;exact wp_skip ⟨rfl,ι,Im,h,W! _ _ _ _⟩
  |region id ops d=>intro dn _ w ι Im a s s' ex h hr;simp only[gB,zO]at dn;cases d with|false=>simp only[exec]at hr;split at hr<;>cases hr;rename_i hs;obtain⟨ι1,o6,h1,e1⟩:=Kb (G.cmd f (2*id)) h;exact AP hG hO.toSoundCall id ops (WI dn.1) h1 hs _ fun a' w' aD=>⟨rfl,(aD.from e1).post _⟩|true=>simp only[exec]at hr;split at hr<;>cases hr;rename_i hs;obtain⟨ι0,Qy,h0,e0⟩:=Kb (G.cmd f (2*id)) h;obtain⟨o6,h1,e1⟩:=tM (dq (pR (G.cmd f (2*id)) s).env (pR (G.cmd f (2*id)) s).heap (G.pre f id)) h0;exact RJ hm hG hO.toSoundCall id ops (WI dn.1) (by simpa using dn.2) h1 hs _ fun a' w' aD=>⟨rfl,(aD.from (e0.trans e1)).post _⟩
  |seq x y Zg XU=>intro dn VU w ι Im a s s' ex h hr;simp only[gB,zO]at dn;simp only[exec]at hr;refine wp_seq ?_;split at hr;rename_i s1 nK;refine wp_mono (Zg dn.1 (fun id b ho=>VU id b (by simp only[lf];exact .inl ho)) h nK) fun e a1 w1⟨he,ι1,o6,h1,e1⟩=>?_;subst he;refine wp_mono (XU dn.2 (fun id b ho=>VU id b (by simp only[lf];exact .inr ho)) h1 hr) fun e a2 w2⟨he,aD⟩=>⟨he,aD.from e1⟩;rename_i s1 nK;cases hr;refine wp_mono (Zg dn.1 (fun id b ho=>VU id b (by simp only[lf];exact .inl ho)) h nK) fun e a1 w1⟨he,aD⟩=>?_;subst he;exact⟨rfl,aD⟩;rename_i i s1 nK;cases hr;refine wp_mono (Zg dn.1 (fun id b ho=>VU id b (by simp only[lf];exact .inl ho)) h nK) fun e a1 w1⟨he,aD⟩=>?_;subst he;exact⟨rfl,aD⟩;cases hr
  |cond o x y Zg XU=>intro dn VU w ι Im a s s' ex h hr;simp only[gB,zO]at dn;simp only[exec]at hr;split at hr;rotate_left;cases hr;rename_i b hb;have hv:=QP h.env o;rw[hb]at hv;have hp:=hv.gC;generalize hvo:a.eval o=vo at hp;cases hp;refine wp_cond hvo ?_;cases b with|true=>exact Zg dn.1 (fun id b ho=>VU id b (by simp only[lf];exact .inl ho)) h hr|false=>exact XU dn.2 (fun id b ho=>VU id b (by simp only[lf];exact .inr ho)) h hr
  |block id c ih=>
   intro dn VU w ι Im a s s' ex h hr;simp only[gB]at dn;refine wp_block ?_;by_cases hl: ∃b,c= .loop b;{obtain⟨b,rfl⟩:=hl;simp only[exec]at hr;split at hr;rotate_left;cases hr;(rename_i s1 nK;obtain⟨ι1,o6,h1,e1,xJ⟩:=Fg (G.spec f id) h nK;have QE:=H5 EI (VU id b (by simp[lf]));obtain⟨jz,n,hwp⟩:=hO.loop f id _ ex s' hr fi b XP QE;refine wp_mono (wp_loop_rounds n (hwp w ι1 o6 a h1)) fun e a' w'⟨he,aD⟩=>?_;have La:aH w s.heap ι Im fi.nt s' a' w' :=by obtain⟨ι2,GC,k1,k2⟩:=aD.from e1;exact⟨ι2,GC,k1,k2.full xJ⟩);cases ex with|normal=>simp only at he;subst he;simp only[Exit.inBlock,if_true];exact⟨rfl,La⟩|ret=>simp only at he;subst he;exact⟨rfl,La⟩|exit i=>simp only at he;subst he;simp only[Exit.inBlock,jz i rfl,if_false];exact⟨rfl,La⟩}
   have hex:exec G O f (.block id c) s=match exec G O f c s with
    |some (.exit i,s')=>if i=id then some (.normal,s')else some (.exit i,s')
    |some (.normal,s')=>some (.normal,s')
    |some (.ret,s')=>some (.ret,s')
    |none=>none:=by
    cases c<;>first|rfl|exact absurd ⟨_,rfl⟩ hl
   rw[hex]at hr;have Lu: ∀id b,lf id b c->lf id b fi.body:=fun i b ho=>VU i b (by
    cases c<;>first|exact absurd ⟨_,rfl⟩ hl|(simp only[lf];exact ho))
   split at hr;rename_i i s1 nK;refine wp_mono (ih dn Lu h nK) fun e a' w'⟨he,aD⟩=>?_;subst he;by_cases hi:i=id;rw[if_pos hi]at hr;cases hr;simp only[Ex.N2,Exit.inBlock,if_pos hi];exact⟨trivial,aD⟩;rw[if_neg hi]at hr;cases hr;simp only[Ex.N2,Exit.inBlock,if_neg hi];exact⟨trivial,aD⟩;rename_i s1 nK;cases hr;refine wp_mono (ih dn Lu h nK) fun e a' w'⟨he,aD⟩=>?_;subst he;exact⟨rfl,aD⟩;rename_i s1 nK;cases hr;refine wp_mono (ih dn Lu h nK) fun e a' w'⟨he,aD⟩=>?_;subst he;exact⟨rfl,aD⟩;cases hr
  |exit id=>intro _ _ w ι Im a s s' ex h hr;simp only[exec,ki,Prod.mk.injEq]at hr;obtain⟨rfl,rfl⟩:=hr;exact wp_exit ⟨rfl,ι,Im,h,W! _ _ _ _⟩
  |ret=>intro _ _ w ι Im a s s' ex h hr;simp only[exec,ki,Prod.mk.injEq]at hr;obtain⟨rfl,rfl⟩:=hr;exact wp_ret ⟨rfl,ι,Im,h,W! _ _ _ _⟩
  |_=>intro _ _ w ι Im a s s' ex h hr;simp[exec]at hr
end
theorem lH{i id:Nat}{c:Code}(h: ∀b,c≠ .loop b):zH (.block i c) id=zH c id:=by cases c<;>first|rfl|exact absurd rfl (h _)
theorem JV{nt:Nat}{id:Nat}{b:Code}: ∀{c:Code},gB nt c=true->zH c id=some b->gB nt b=true:=by intro c;induction c with|seq x y Zg XU=>intro h hf;simp only[gB,zO]at h;simp only[zH]at hf;split at hf;rename_i c0 hx;cases hf;exact Zg h.1 hx;exact XU h.2 hf|block i c ih=>intro h hf;by_cases hl: ∃x,c= .loop x;obtain⟨x,rfl⟩:=hl;simp only[gB]at h ih;simp only[zH]at hf ih;split at hf;cases hf;exact h;exact ih h hf;rw[lH fun x e=>hl ⟨x,e⟩]at hf;exact ih (by simpa only[gB]using h) hf|cond o x y Zg XU=>intro h hf;simp only[gB,zO]at h;simp only[zH]at hf;split at hf;rename_i c0 hx;cases hf;exact Zg h.1 hx;exact XU h.2 hf|loop c ih=>intro h hf;simp only[gB]at h;simp only[zH]at hf;exact ih h hf|_=>intro h hf;simp[zH]at hf
theorem H6{id:Nat}{b:Code}: ∀{c:Code},zH c id=some b-> ∀i x,lf i x b->lf i x c:=by intro c;induction c with|seq x y Zg XU=>intro hf i z hz;simp only[zH]at hf;simp only[lf];split at hf;rename_i c0 hx;cases hf;exact .inl (Zg hx i z hz);exact .inr (XU hf i z hz)|block j c ih=>(intro hf i z hz;by_cases hl: ∃x,c= .loop x;obtain⟨x,rfl⟩:=hl;simp only[zH]at hf ih;simp only[lf]at ih |-;split at hf;cases hf;exact .inr hz;exact .inr (ih hf i z hz);rw[lH fun x e=>hl ⟨x,e⟩]at hf;have:=ih hf i z hz;cases c<;>first|exact absurd ⟨_,rfl⟩ hl|exact this)|cond o x y Zg XU=>intro hf i z hz;simp only[zH]at hf;simp only[lf];split at hf;rename_i c0 hx;cases hf;exact .inl (Zg hx i z hz);exact .inr (XU hf i z hz)|loop c ih=>intro hf i z hz;simp only[zH]at hf;simp only[lf];exact ih hf i z hz|_=>intro hf;simp[zH]at hf
structure Dz (P:Program) (G:GP):Prop where
 fn: ∀f fi,G.fn f=some fi-> ∃fn,P.funcs[f]? =some fn/\(fn.name== "runtime.NumGoroutine")=false/\fn.body=some fi.body/\fn.ntmps=fi.nt/\fn.results.toList=fi.results/\
  gB fi.nt fi.body=true/\(yD fi.body).Nodup
section
variable [xg] {P:Program} {w:World} {H:qr} {ι:yq} {Im:Nat->Prop}
theorem loop_ok{G:GP}{O:xm}(hm:P.follows .mixedOrders=true)(hG:yB P G)(hF:Dz P G)(hO:Sound P G O){f:FuncId}{id:Nat}{s s' :St}{ex:Ex}
  (hr:mR G O f id s=some (ex,s')):IZ P G f id s ex s' :=by
 intro fi c XP hc;obtain⟨fn,_,_,_,_,_,dn,EI⟩:=hF.fn f fi XP;have SP: ∀{w:World}{ι:yq}{Im:Nat->Prop}{a:Act}{s s' :St}{ex:Ex},Inv w a s ι Im fi.nt->exec G O f c s=some (ex,s')->
   c.wp P (fun e a' w' =>e=ex.N2/\aH w s.heap ι Im fi.nt s' a' w') a w:=
  fun h hr=>SK hm hG hO f fi XP EI c (JV dn hc) (H6 hc) h hr
 unfold mR at hr;rw[XP]at hr;simp only[hc]at hr;split at hr;{rename_i s1 nK;split at hr;rotate_left;cases hr;(rename_i s2 EK;obtain⟨jz,n,hn⟩:=hO.loop f id s2 ex s' hr fi c XP hc;refine⟨jz,n+1,fun w ι Im a h=>?_⟩;rw[rounds_succ];refine wp_mono (SP h nK) fun e a' w'⟨he,ι1,o6,h1,e1⟩=>?_;subst he;obtain⟨GC,h1,e2⟩:=tM (dq s1.env s1.heap (G.spec f id).freeze) h1;obtain⟨ι2,h2,e2,xY⟩:=Oj (G.spec f id) h1 h.nx (e1.trans e2) EK;have SY: ∀(n:Nat){Q Q' :Exit->Act->World->Prop}{a:Act}{w:World},(∀ e a w,Q e a w->Q' e a w)->Code.rounds P c Q n a w->Code.rounds P c Q' n a w:=by intro n;induction n with|zero=>intro Q Q' a w _ h;exact h|succ n ih=>intro Q Q' a w hq h;rw[rounds_succ]at h |-;refine wp_mono h fun e a w he=>?_;cases e<;>first|exact ih hq he|exact hq _ _ _ he);exact SY n (fun e a w ⟨q1,q2⟩=>⟨q1,(q2.Hx xY).from e2⟩) (hn _ _ _ _ h2)};rename_i i s1 nK;by_cases hi:i=id;rw[if_pos hi]at hr;obtain⟨Nh,rfl⟩:=XX hr;refine⟨fun i h=>(by cases h),1,fun w ι Im a h=>?_⟩;rw[rounds_succ];refine wp_mono (SP h nK) fun e a' w'⟨he,ι1,o6,h1,e1⟩=>?_;subst he;obtain⟨ι2,h2,e2⟩:=Wv (G.spec f id) h1 h.nx e1 Nh;exact⟨by rw[<- hi];rfl,_,_,h2,e2⟩;rw[if_neg hi]at hr;obtain⟨Nh,rfl⟩:=XX hr;refine⟨fun j h=>(by cases h;exact hi),1,fun w ι Im a h=>?_⟩;rw[rounds_succ];refine wp_mono (SP h nK) fun e a' w'⟨he,ι1,o6,h1,e1⟩=>?_;subst he;obtain⟨ι2,h2,e2⟩:=Wv (G.spec f id) h1 h.nx e1 Nh;exact⟨rfl,_,_,h2,e2⟩;rename_i s1 nK;obtain⟨Nh,rfl⟩:=XX hr;refine⟨fun i h=>(by cases h),1,fun w ι Im a h=>?_⟩;rw[rounds_succ];refine wp_mono (SP h nK) fun e a' w'⟨he,ι1,o6,h1,e1⟩=>?_;subst he;obtain⟨ι2,h2,e2⟩:=Wv (G.spec f id) h1 h.nx e1 Nh;exact⟨rfl,_,_,h2,e2⟩;cases hr
theorem q0a{ti:TI}{x r:AV}{v:Value}(hx:RA w H ι Im x v)(hr:QJ ti x H=some r): ∃a,v= .pointer (some a):=by unfold QJ at hr;split at hr;cases hx;exact⟨_,rfl⟩;cases hx;exact⟨_,rfl⟩;cases hx;exact⟨_,rfl⟩;(cases hx with|pv _ _ h=>cases h;exact⟨_,rfl⟩);cases hr
def AQ(tmps:Array Value):ResultVar->Sem Value
 | .tmp t=>pure (tmps.getD t undef)
 | .cell a t=>do loadVar t (<- asAddr (tmps.getD a undef))
theorem RL(fn:Func)(tmps:Array Value):results fn tmps=(do
  let vs <-fn.results.mapM (AQ tmps)
  pure (if h:vs.size=1 then vs[0]else .tuple vs)):=by unfold results;rfl
theorem resOf_ok{G:GP}(hG:yB P G){a:Act}{s:St}{nt:Nat}(h:Inv w a s ι Im nt){rv:ResultVar}{x:AV}(hr:Uu G s rv=some x):
  ∃v,(AQ a.tmps rv).run P w= .ok v w/\RA w s.heap ι Im x v:=by cases rv with|tmp t=>simp only[Uu,ki]at hr;subst hr;exact⟨_,by simp only[AQ,K?],h.env t⟩|cell b t=>simp only[Uu]at hr;split at hr;rotate_left;cases hr;rename_i ti lh;obtain⟨ad,had⟩:=q0a (h.env b) hr;obtain⟨u,h1,h2⟩:=Bt (hG t ti lh) h.heap (h.env b) hr;refine⟨u, ?_,h2⟩;rw[had]at h1;simp only[Instr.loadAt,Instr.sureAddr,pure_bind]at h1;simp only[AQ,had,asAddr,pure_bind];exact h1
theorem Ut{G:GP}(hG:yB P G){a:Act}{s:St}{nt:Nat}(h:Inv w a s ι Im nt): ∀{rs:List ResultVar}{xs:List AV},aj G s rs=some xs->
  ∃vs:List Value,(rs.mapM (AQ a.tmps)).run P w= .ok vs w/\xs.length=vs.length/\ ∀(i:Nat) x v,xs[i]? =some x->vs[i]? =some v->RA w s.heap ι Im x v
 |[],xs,hr=>by simp only[aj,ki]at hr;subst hr;exact⟨[],z?,rfl,z?⟩
 |r::l,xs,hr=>by simp only[aj]at hr;split at hr;rotate_left;cases hr;rename_i v vs h1 h2;cases hr;obtain⟨u,q1,q2⟩:=resOf_ok hG h h1;obtain⟨us,q3,q4,q5⟩:=Ut hG h h2;refine⟨u::us, ?_,by simp[q4],fun i x v hx hv=>?_⟩;rw[q1l];simp only[jT,q1,q3,me,K?];cases i with|zero=>simp at hx hv;subst hx;subst hv;exact q2|succ i=>simp at hx hv;exact q5 i x v hx hv
theorem RM{G:GP}(hG:yB P G){fn:Func}{a:Act}{s:St}{nt:Nat}(h:Inv w a s ι Im nt){xs:List AV}(hr:aj G s fn.results.toList=some xs):
  ∃v,(results fn a.tmps).run P w= .ok v w/\RA w s.heap ι Im (Q9 xs) v:=by
 obtain⟨vs,h1,h2,h3⟩:=Ut hG h hr;rw[RL,Array.mapM_eq_mapM_toList];have h1' :(Functor.map List.toArray (fn.results.toList.mapM (AQ a.tmps)):Sem (Array Value)).run P w= .ok vs.toArray w:=by rw[map_eq_pure_bind,jT,h1,me,K?]
 rw[jT,h1',me,K?];refine⟨_,rfl, ?_⟩;split
 ·rename_i hs;obtain⟨v,rfl⟩: ∃v,vs=[v]:=by
   cases vs with
   |nil=>simp at hs
   |cons v r=>cases r with
    |nil=>exact⟨v,rfl⟩
    |cons _ _=>simp at hs
  obtain⟨x,rfl⟩: ∃x,xs=[x]:=by
   cases xs with
   |nil=>simp at h2
   |cons v r=>cases r with
    |nil=>exact⟨v,rfl⟩
    |cons _ _=>simp at h2
  exact h3 0 x v rfl rfl
 rename_i hs;have:Q9 xs= .xV xs:=by unfold Q9;split;exfalso;apply hs;simpa using h2.symm;rfl
 rw[this];exact .xV xs vs h2 h3
theorem BE: ∀{args:List AV}{vs:List Value}(k:Nat),args.length=vs.length->(∀(i:Nat) x v,args[i]? =some x->vs[i]? =some v->RA w H ι Im x v)->
  ∀t,(rK k args).get t= .undef\/ ∃i x v,t=k+i/\args[i]? =some x/\vs[i]? =some v/\(rK k args).get t=x
 |[],vs,k,_,_,t=> .inl rfl
 |x::r,[],k,h,_,t=>by simp at h
 |x::r,v::us,k,hl,h,t=>by simp only[rK,V!];split;rename_i e;exact .inr ⟨0,x,v,o?,rfl,rfl,rfl⟩;rcases BE (args:=r) (vs:=us) (k+1) (by simpa using hl) (fun i x v h1 h2=>h (i+1) x v (by simpa using h1) (by simpa using h2)) t with g|⟨i,y,u,e,g1,g2,g3⟩;exact .inl g;exact .inr ⟨i+1,y,u,o?,by simpa using g1,by simpa using g2,g3⟩
theorem unz_ok{x:AV}{v:Value}(h:RA w H ι Im x v):RA w H ι Im (unz x) v:=by cases h with|o5 a=>exact .pv _ _ (.sl 0 [] a.block a.off 0 (fun _=>undef) (fun h=>absurd rfl h) z? z? z? z? z? a.spot (fun h=>absurd rfl h))|undef v=>exact .undef v|pv p v h=>exact .pv p v h|ptr β o c hb hk=>exact .ptr β o c hb hk|uI β xf i o b1 o1 b hb jA h=>exact .uI β xf i o b1 o1 b hb jA h|row β xf off n v b ho hb hk jA h=>exact .row β xf off n v b ho hb hk jA h|tU c o b off vs QF hc hf h=>exact .tU c o b off vs QF hc hf h|map β es zR hb=>exact .map β es zR hb|Z5 f a b va vb VT SX ha hb=>exact .Z5 f a b va vb VT SX ha hb|agg c vs hl hf h=>exact .agg c vs hl hf h|xV c vs hl h=>exact .xV c vs hl h
theorem sub_evo{w0:World}{H0:qr}{ι0:yq}{Qy:Nat->Prop}{L:List Nat}{H' :qr}(hs:ZK H L H')(he:wR w0 H0 ι0 Qy w H ι Im){m:Nat}{r:List Nat}(hL:L=E? m++r)
  (hm: ∀β b,H0.get β=some b->β<m):wR w0 H0 ι0 Qy w H' (Zw ι L) Im where
 comp:=fun β b hb=>by (obtain⟨b',q1,q2⟩:=he.comp β b hb;have hl:L[β]? =some β:=by rw[hL];exact Uf m r (hm β b hb));(refine⟨b'.cq (pos L),by rw[hs.look,hl];simp[q1], ?_⟩;have:Zw ι L β=ι β:=by simp[Zw,hl]);rw[this];exact Ji _ q2
 im:=he.im
 ta:=he.ta
 nT:=fun γ x z hx hu=>by obtain⟨β,b0,h1,h2,rfl,h4⟩:=hs.inv (ι:=ι) hx;rw[qE.nZ,h4]at hu;exact he.nT β b0 z h2 hu
 kD:=he.kD
 size:=he.size
 io:=he.io
theorem Fo{w0:World}{H0:qr}{ι0:yq}{Qy:Nat->Prop}{a:Act}{s:St}{nt:Nat}(h:Inv w a s ι Im nt){x:AV}{u:Value}(hx:RA w s.heap ι Im x u)
  (he:wR w0 H0 ι0 Qy w s.heap ι Im) {m:Nat} (hm: ∀β b,H0.get β=some b->β<m) {sm:Bool} {r:AV} {H' :qr} (hr:finish m sm x s=some (r,H')):
  ∃ι' jV,zc w H' ι' jV/\wR w0 H0 ι0 Qy w H' ι' jV/\RA w H' ι' jV r u:=by
 have hinv:Inv w ⟨#[u],[]⟩ { s with env:=[(0,x)] } ι Im 0:=by refine⟨h.heap,fun t=>?_,h.nx,B! _,rfl⟩;cases t with|zero=>simpa[V!]using hx|succ t=>simp only[V!];rw[if_neg o?];exact .undef _
 have key: ∀{s1:St}{o6:Nat->Prop},Inv w ⟨#[u],[]⟩ s1 ι o6 0->wR w s.heap ι Im w s1.heap ι o6->(match sj s1.heap (E? m) (unz (s1.env.get 0)).refs with
   |some (L,H)=>some ((unz (s1.env.get 0)).cq (pos L),H)
   |none=>none)=some (r,H')-> ∃ι' jV,zc w H' ι' jV/\wR w0 H0 ι0 Qy w H' ι' jV/\RA w H' ι' jV r u:=by
  intro s1 o6 h1 e1 hr;split at hr<;>cases hr;rename_i L Ze;obtain⟨hs,Wm,rr,hL⟩:=oM q1e Ze;refine⟨Zw ι L,o6,hs.hinv h1.heap,sub_evo hs (he.trans e1) hL hm, ?_⟩;have hv:=unz_ok (h1.env 0);simp only[F_]at hv;exact Zn _ hv fun β hβ b hb=>hs.BT (Wm β hβ) b hb
 unfold finish at hr;cases sm with|true=>simp only[if_true]at hr;exact key hinv (W! _ _ _ _) hr|false=>simp only[ko,if_false]at hr;obtain⟨o6,h1,e1⟩:=tM x.rows hinv;exact key h1 e1 hr
theorem runFn_ok{G:GP}{O:xm}(hm:P.follows .mixedOrders=true)(hG:yB P G)(hF:Dz P G)(hO:Sound P G O){f:FuncId}{args:List AV}{H:qr}{r:AV}{H' :qr}
  (hr:Q2 G O f args H=some (r,H')):enters P f/\ln P f args H r H' :=by
 unfold Q2 at hr;split at hr;cases hr;rename_i fi XP;obtain⟨fn,g1,g2,g3,g4,g5,dn,EI⟩:=hF.fn f fi XP;refine⟨⟨fn,g1,g2,by rw[g3];rfl⟩,fun w ι Im vs hi hl hR=>?_⟩;split at hr;rotate_left;cases hr;rename_i hk;have xJ: ∀β b,H.get β=some b->β<H.length:=fun β b hb=>by have:=(sJ H 0 hk hb).2;omega
 have hinv:Inv w { tmps:=(⟨vs⟩:Array Value)++b_ (fn.ntmps-(⟨vs⟩:Array Value).size) undef,defers:=[] } ⟨rK 0 args,H,H.length⟩ ι Im fi.nt:=by refine⟨hi,fun t=>?_,xJ, ?_,rfl⟩;simp only;rcases BE 0 hl hR t with h|⟨i,x,v,e,h1,h2,h3⟩;rw[h];exact .undef _;(rw[h3];have:t=i:=o?;subst this;have ht:t<vs.length:=(qF h2).1;have:(((⟨vs⟩:Array Value)++b_ (fn.ntmps-(⟨vs⟩:Array Value).size) undef).getD t undef)=v:=by rw[Array.getD_eq_getD_getElem?,Array.getElem?_append_left (by simpa using ht)];simp only[List.getElem?_toArray,h2,c!]);rw[this];exact hR t x v h1 h2;simp only[Array.size_append,Array.size_replicate];omega
 have hwp: ∀{s s' :St}{ex:Ex}{w:World}{ι:yq}{Im:Nat->Prop}{a:Act},Inv w a s ι Im fi.nt->exec G O f fi.body s=some (ex,s')->
   fi.body.wp P (fun e a' w' =>e=ex.N2/\aH w s.heap ι Im fi.nt s' a' w') a w:=
  fun h hr=>SK hm hG hO f fi XP EI fi.body dn (fun _ _ h=>h) h hr
 have close: ∀{s:St}{ex:Ex},exec G O f fi.body ⟨rK 0 args,H,H.length⟩=some (ex,s)->(ex= .normal\/ex= .ret)->(match aj G (pR (G.cmd f 999999) s) fi.results with
   |some vs=>finish H.length (G.sm f) (Q9 vs) (pR (G.cmd f 999999) s)
   |none=>none)=some (r,H')->Calls P f ⟨vs⟩ w fun e w' => ∃v ι' jV,e= .returned v/\zc w' H' ι' jV/\wR w H ι Im w' H' ι' jV/\RA w' H' ι' jV r v:=by
  intro s ex hs hex hr;split at hr;rotate_left
  ·cases hr
  rename_i xs hxs;refine calls_of_wp g1 g3 (wp_mono (hwp hinv hs) fun e a' w'⟨he,aD⟩=>?_);obtain⟨ι1,o6,h1,e1⟩:=aD.post (G.cmd f 999999);subst he;rw[<- g5]at hxs;obtain⟨v,q1,q2⟩:=RM hG h1 hxs;obtain⟨ι2,GC,k1,k2,k3⟩:=Fo h1 q2 e1 xJ hr;rcases hex with rfl|rfl
  ·exact⟨h1.defers,v,q1,v,ι2,GC,rfl,k1,k2,k3⟩
  exact⟨h1.defers,v,q1,v,ι2,GC,rfl,k1,k2,k3⟩
 split at hr;cases hr;(rename_i ex s jz hs;refine close hs ?_ hr;cases ex with|normal=>exact .inl rfl|ret=>exact .inr rfl|exit i=>exact absurd rfl (jz i));cases hr
def Qe[xg](P:Program)(S:pj):Prop:= ∀f g,S.call f=some g-> ∀args H r H',g args H=some (r,H')->enters P f/\ln P f args H r H'
theorem q0P[xg]{G:GP}{S:pj}(hm:P.follows .mixedOrders=true)(hG:yB P G)(hF:Dz P G)(hS:Qe P S): ∀n,Sound P G (WM G S n)
 |0=>⟨⟨fun _ _ _ _ _ h=>by simp[WM]at h⟩,fun _ _ _ _ _ h=>by simp[WM]at h⟩
 |n+1=>by have ih:=q0P hm hG hF hS n;refine⟨⟨fun f args H r H' h=>?_⟩,fun f id s ex s' h=>?_⟩;simp only[WM]at h;split at h;rename_i g hg;exact hS f g hg args H r H' h;exact runFn_ok hm hG hF ih h;simp only[WM]at h;exact loop_ok hm hG hF ih h
end
def Ends(p:Nat->Prop):Prop:= ∃n,∀ m,n<=m->p m
theorem Ends.and{p q:Nat->Prop}(h1:Ends p)(h2:Ends q):Ends fun m=>p m/\q m:=
 let⟨a,ha⟩:=h1
 let⟨b,hb⟩:=h2
 ⟨max a b,fun m hm=>⟨ha m o?,hb m o?⟩⟩
theorem Ends.mono{p q:Nat->Prop}(h: ∀m,p m->q m)(h1:Ends p):Ends q:=
 let⟨a,ha⟩:=h1
 ⟨a,fun m hm=>h m (ha m hm)⟩
theorem Ends.of{p:Prop}(h:p):Ends fun _=>p:=⟨0,fun _ _=>h⟩
theorem Ends.now{p:Nat->Prop}(h:Ends p): ∃n,p n:=let⟨a,ha⟩:=h;⟨a,ha a (jx _)⟩
open Classical in
noncomputable def Cd {α:Type} (F:Nat->Option α):Option α:=
 if h: ∃r,Ends fun m=>F m=some r then some h.choose else none
theorem bS{α:Type}{F:Nat->Option α}{r:α}:Cd F=some r↔Ends fun m=>F m=some r:=by unfold Cd;constructor;intro h;split at h;rename_i hx;cases h;exact hx.choose_spec;cases h;intro h;have hx: ∃r,Ends fun m=>F m=some r:=⟨r,h⟩;rw[dif_pos hx];obtain⟨n,h1,h2⟩:=(h.and hx.choose_spec).now;rw[h1]at h2;exact h2.symm
noncomputable def omega (G:GP) (S:pj):xm:=
 ⟨fun f args H=>Cd fun n=>(WM G S n).call f args H,fun f id s=>Cd fun n=>(WM G S n).loop f id s⟩
section
variable {G:GP} {S:pj}
variable {O:xm} {F:Nat->xm}
structure dX (O:xm) (F:Nat->xm):Prop where
 call: ∀f args H r,O.call f args H=some r->Ends fun m=>(F m).call f args H=some r
 loop: ∀f id s r,O.loop f id s=some r->Ends fun m=>(F m).loop f id s=some r
theorem KS(hA:dX O F){f:FuncId}{args:List AV}{H:qr}{nx:Nat}{e:mC}(h:eQ O f args H nx=some e):Ends fun m=>eQ (F m) f args H nx=some e:=by unfold eQ at h |-;split at h;cases h;rename_i L H0 hs;split at h;cases h;rename_i v H' hc;refine(hA.call _ _ _ _ hc).mono fun m hm=>?_;rw[hm];exact h
theorem BB(hA:dX O F){o:Op}{E:yp}{H:qr}{nx:Nat}{e:mC}(h:mD G O o E H nx=some e):Ends fun m=>mD G (F m) o E H nx=some e:=by cases o with|call c=>(obtain⟨callee,args,cu⟩:=c;cases callee with|value fo=>unfold mD at h |-;simp only at h |-;split at h;exact KS hA h;exact KS hA h;cases h|_=>exact Ends.of h)|makeFunc fn a b=>cases fn<;>exact Ends.of h|makeMap t r=>cases r<;>exact Ends.of h|_=>exact Ends.of h
theorem S3(hA:dX O F){o:Oper}{s s' :St}(h:Xp G O o s=some s'):Ends fun m=>Xp G (F m) o s=some s' :=by unfold Xp at h |-;split at h;rename_i v ws nx X0;refine(BB hA X0).mono fun m hm=>?_;rw[hm];exact h;cases h
theorem XK(hA:dX O F)(all:List Oper): ∀{l:List Oper}{s s' :St},XJ G O all l s=some s' ->Ends fun m=>XJ G (F m) all l s=some s'
 |[],s,s',h=>Ends.of h
 |o::r,s,s',h=>by simp only[XJ]at h |-;split at h;split at h;rename_i s1 nK;refine((S3 hA nK).and (XK hA all h)).mono fun m⟨h1,h2⟩=>?_;simp only[h1,h2];cases h;exact XK hA all h;cases h
theorem Z3(hA:dX O F)(all:List Oper){tm:Bool}: ∀{l:List Oper}{i:Nat}{s s' :St}{log:List (Nat×List Nat×List Nat)},fc G O all tm i l s log=some s' ->Ends fun m=>fc G (F m) all tm i l s log=some s'
 |[],i,s,s',log,h=>Ends.of h
 |o::r,i,s,s',log,h=>by simp only[fc]at h |-;split at h;split at h;rename_i v ws nx X0;refine((BB hA X0).and (Z3 hA all h)).mono fun m⟨h1,h2⟩=>?_;rw[h1];exact h2;cases h;exact Z3 hA all h;cases h
theorem Qk(hA:dX O F){f:FuncId}: ∀{c:Code}{s:St}{r:Ex×St},exec G O f c s=some r->Ends fun m=>exec G (F m) f c s=some r:=by
 intro c;induction c with
  |region id ops d=>intro s r h;cases d with|false=>simp only[exec]at h |-;split at h<;>cases h;rename_i s1 nK;refine(XK hA _ nK).mono fun m hm=>?_;rw[hm]|true=>simp only[exec]at h |-;split at h<;>cases h;rename_i s1 nK;refine(Z3 hA _ nK).mono fun m hm=>?_;rw[hm]
  |seq x y Zg XU=>intro s r h;simp only[exec]at h |-;split at h;rename_i s1 nK;refine((Zg nK).and (XU h)).mono fun m⟨h1,h2⟩=>?_;rw[h1];exact h2;rename_i s1 nK;refine(Zg nK).mono fun m h1=>?_;rw[h1];exact h;rename_i i s1 nK;refine(Zg nK).mono fun m h1=>?_;rw[h1];exact h;cases h
  |cond o x y Zg XU=>intro s r h;simp only[exec]at h |-;split at h;(rename_i b hb;cases b with|true=>exact Zg h|false=>exact XU h);cases h
  |block id c ih=>
   intro s r h;by_cases hl: ∃b,c= .loop b;obtain⟨b,rfl⟩:=hl;simp only[exec]at h |-;split at h;exact hA.loop _ _ _ _ h;cases h
   have hex: ∀O,exec G O f (.block id c) s=match exec G O f c s with
    |some (.exit i,s')=>if i=id then some (.normal,s')else some (.exit i,s')
    |some (.normal,s')=>some (.normal,s')
    |some (.ret,s')=>some (.ret,s')
    |none=>none:=by
    intro O;cases c<;>first|rfl|exact absurd ⟨_,rfl⟩ hl
   simp only[hex]at h |-;split at h;rename_i i s1 nK;refine(ih nK).mono fun m h1=>?_;rw[h1];exact h;rename_i s1 nK;refine(ih nK).mono fun m h1=>?_;rw[h1];exact h;rename_i s1 nK;refine(ih nK).mono fun m h1=>?_;rw[h1];exact h;cases h
  |skip=>intro s r h;exact Ends.of h
  |exit id=>intro s r h;exact Ends.of h
  |ret=>intro s r h;exact Ends.of h
  |_=>intro s r h;simp[exec]at h
theorem eC(hA:dX O F){f:FuncId}{id:Nat}{s:St}{r:Ex×St}(h:mR G O f id s=some r):Ends fun m=>mR G (F m) f id s=some r:=by unfold mR at h |-;split at h;cases h;rename_i fi XP;split at h;cases h;rename_i c hc;split at h;rename_i s1 nK;split at h;rename_i s2 EK;refine((Qk hA nK).and (hA.loop _ _ _ _ h)).mono fun m⟨h1,h2⟩=>?_;simp only[h1,EK,h2];cases h;rename_i i s1 nK;refine(Qk hA nK).mono fun m h1=>?_;simp only[h1];exact h;rename_i s1 nK;refine(Qk hA nK).mono fun m h1=>?_;simp only[h1];exact h;cases h
theorem Zp(hA:dX O F){f:FuncId}{args:List AV}{H:qr}{r:AV×qr}(h:Q2 G O f args H=some r):Ends fun m=>Q2 G (F m) f args H=some r:=by unfold Q2 at h |-;split at h;cases h;rename_i fi XP;split at h;rotate_left;cases h;rename_i hk;simp only[hk,if_true];split at h;cases h;(rename_i ex s jz hs;refine(Qk hA hs).mono fun m h1=>?_;rw[h1];cases ex with|exit i=>exact absurd rfl (jz i)|_=>exact h);cases h
theorem Xc:dX (omega G S) (WM G S):=⟨fun _ _ _ _ h=>bS.1 h,fun _ _ _ _ h=>bS.1 h⟩
theorem WN: ∀n,dX (WM G S n) fun _=>WM G S (n+1)
 |0=>⟨fun _ _ _ _ h=>by simp[WM]at h,fun _ _ _ _ h=>by simp[WM]at h⟩
 |n+1=>by have ih:=WN n;refine⟨fun f args H r h=>?_,fun f id s r h=>?_⟩;rw[WM]at h |-;simp only at h |-;split at h;exact Ends.of h;exact Zp ih h;rw[WM]at h |-;simp only at h |-;exact eC ih h
theorem NZ{n:Nat}{f:FuncId}{args:List AV}{H:qr}{r:AV×qr}(h:(WM G S n).call f args H=some r):(omega G S).call f args H=some r:=by refine bS.2 ⟨n,fun m hm=>?_⟩;obtain⟨k,rfl⟩:=O_ hm;induction k with|zero=>exact h|succ k ih=>obtain⟨_,h2⟩:=((WN (n+k)).call f args H r (ih o?)).now;exact h2
theorem q0J{f:FuncId}{args:List AV}{H:qr}{r:AV×qr}(hs:S.call f=none)(h:Q2 G (omega G S) f args H=some r):(omega G S).call f args H=some r:=by refine bS.2 ?_;obtain⟨n,hn⟩:=Zp Xc h;refine⟨n+1,fun m hm=>?_⟩;obtain⟨k,rfl⟩: ∃k,m=k+1:=⟨m-1,o?⟩;simp only[WM,hs];exact hn k o?
theorem R7{f:FuncId}{id:Nat}{s:St}{r:Ex×St}(h:mR G (omega G S) f id s=some r):(omega G S).loop f id s=some r:=by refine bS.2 ?_;obtain⟨n,hn⟩:=eC Xc h;refine⟨n+1,fun m hm=>?_⟩;obtain⟨k,rfl⟩: ∃k,m=k+1:=⟨m-1,o?⟩;simp only[WM];exact hn k o?
theorem q0K[xg]{P:Program}(hm:P.follows .mixedOrders=true)(hG:yB P G)(hF:Dz P G)(hS:Qe P S){f:FuncId}{args:List AV}{H:qr}{r:AV}{H' :qr}
  (h:(omega G S).call f args H=some (r,H')):ln P f args H r H' :=by obtain⟨n,hn⟩:=(bS.1 h).now;exact((q0P hm hG hF hS n).call f args H r H' hn).2
theorem q0O{n:Nat}{f:FuncId}{id:Nat}{s:St}{r:Ex×St}(h:(WM G S n).loop f id s=some r):(omega G S).loop f id s=some r:=by refine bS.2 ⟨n,fun m hm=>?_⟩;obtain⟨k,rfl⟩:=O_ hm;induction k with|zero=>exact h|succ k ih=>obtain⟨_,h2⟩:=((WN (n+k)).loop f id s r (ih o?)).now;exact h2
theorem U8(n:Nat):dX (WM G S n) fun _=>omega G S:=
 ⟨fun _ _ _ _ h=>Ends.of (NZ h),fun _ _ _ _ h=>Ends.of (q0O h)⟩
theorem R6(f:FuncId)(id:Nat)(s:St):(omega G S).loop f id s=mR G (omega G S) f id s:=by cases h:mR G (omega G S) f id s with|some r=>exact R7 h|none=>cases h2:(omega G S).loop f id s with|none=>rfl|some r=>obtain⟨n,hn⟩:=bS.1 h2;have h3:=hn (n+1) o?;simp only[WM]at h3;obtain⟨_,h4⟩:=(eC (U8 n) h3).now;rw[h]at h4;cases h4
theorem R5{f:FuncId}(hs:S.call f=none)(args:List AV)(H:qr):(omega G S).call f args H=Q2 G (omega G S) f args H:=by cases h:Q2 G (omega G S) f args H with|some r=>exact q0J hs h|none=>cases h2:(omega G S).call f args H with|none=>rfl|some r=>obtain⟨n,hn⟩:=bS.1 h2;have h3:=hn (n+1) o?;simp only[WM,hs]at h3;obtain⟨_,h4⟩:=(Zp (U8 n) h3).now;rw[h]at h4;cases h4
end
end Go.Gm
namespace Go.Gm
open Go
def fnOf(P:Program)(f:FuncId):Option FI:=
 match P.funcs[f]? with
 |some fn=>match fn.body with
  |some b=>if fn.name≠ "runtime.NumGoroutine" /\gB fn.ntmps b=true/\(yD b).Nodup then some ⟨fn.ntmps,fn.results.toList,b⟩else none
  |none=>none
 |none=>none
theorem fnOf_ok{P:Program}{f:FuncId}{fi:FI}(h:fnOf P f=some fi): ∃fn,P.funcs[f]? =some fn/\(fn.name== "runtime.NumGoroutine")=false/\fn.body=some fi.body/\fn.ntmps=fi.nt/\
  fn.results.toList=fi.results/\gB fi.nt fi.body=true/\(yD fi.body).Nodup:=by
 unfold fnOf at h;split at h<;>try cases h
 rename_i fn hfn;split at h<;>try cases h
 rename_i b hb;split at h<;>try cases h
 rename_i hc;exact⟨fn,hfn,by simpa using hc.1,hb,rfl,rfl,hc.2.1,hc.2.2⟩
def gpOf(P:Program)(spec:FuncId->Nat->pF)(owned sm:FuncId->Bool)(pre:FuncId->Nat->List Nat)(GG ER:TypeId->Bool)(cmd:FuncId->Nat->List Dx):GP:=⟨tiOf P,fnOf P,spec,owned,sm,pre,GG,ER,cmd⟩
theorem L8{P:Program}{spec:FuncId->Nat->pF}{owned sm:FuncId->Bool}{pre:FuncId->Nat->List Nat}{GG ER:TypeId->Bool}{cmd:FuncId->Nat->List Dx}:yB P (gpOf P spec owned sm pre GG ER cmd):=fun _ _ h=>tiOf_ok h
theorem gp_fns{P:Program}{spec:FuncId->Nat->pF}{owned sm:FuncId->Bool}{pre:FuncId->Nat->List Nat}{GG ER:TypeId->Bool}{cmd:FuncId->Nat->List Dx}:Dz P (gpOf P spec owned sm pre GG ER cmd):=⟨fun _ _ h=>fnOf_ok h⟩
def U7(w:World)(b:Nat):Prop:=b<w.heap.size
theorem old_inv[xg](w:World)(ι:yq)(hg:xg.ok w/\ ∀b,xg.on b->b<w.heap.size):zc w [] ι (U7 w) where
 Na:=hg.1
 VP:=hg.2
 rB:=fun _ _ h=>by cases h
 inj:=fun _ _ _ _ _ h=>by cases h
 im:=fun _ h=>h
 Vt:=fun _ _ _ h=>by cases h
def DC(w:World)(c:List PV)(cs:List Value):Prop:=
 c.length=cs.length/\(∀ p∈c,p.kP=true)/\ ∀(i:Nat) p v,c[i]? =some p->cs[i]? =some v->RP w (U7 w) p v
theorem DC.append{w:World}{c c' :List PV}{cs cs' :List Value}(h:DC w c cs)(h' :DC w c' cs'):DC w (c++c') (cs++cs'):=by obtain⟨a1,a2,a3⟩:=h;obtain⟨b1,b2,b3⟩:=h';refine⟨by simp[a1,b1],fun p hp=>?_,fun i p v h1 h2=>?_⟩;rcases m?.1 hp with hp|hp;exact a2 p hp;exact b2 p hp;by_cases hi:i<c.length;rw[r? hi]at h1;rw[r? (a1 ▸ hi)]at h2;exact a3 i p v h1 h2;rw[J? o?]at h1;rw[J? o?]at h2;exact b3 _ p v h1 (a1 ▸ h2)
theorem DC.one{w:World}{p:PV}{v:Value}(hf:p.kP=true)(h:RP w (U7 w) p v):DC w [p] [v]:=by refine⟨rfl,by simpa using hf,fun i q u h1 h2=>?_⟩;cases i with|zero=>simp at h1 h2;subst h1;subst h2;exact h|succ i=>simp at h1
theorem DC.nil{w:World}:DC w [] []:=⟨rfl,z?,z?⟩
def jW{α:Type}(P:Program)(t:TypeId)(e:α->List PV)(ok:α->Prop)(n:Nat):Prop:=
 ∀(H:Type)(enc:TypeId×Value->H)(w:World)(base:Nat)(spare:Nat->Bool)(held:Bool)(fuel:Nat)(cs:List Value)(x:DataW H×List MemPlace),fuel<=n->
  DataW.trod enc P w base spare held fuel t cs=some x-> ∃a:α,ok a/\(e a).length=P.cellsOf t/\DC w (e a) cs
section
variable {P:Program}
theorem jW.int{t:TypeId}{k:IntKind}(ht:P.underlying t=some (.int k))(hc:P.cellsOf t=1)(n:Nat):jW P t (fun x:Int=>[PV.int k x]) (fun x=>(Lit.int k x).wf=true) n:=by intro H enc w base spare held fuel cs x _ h;obtain⟨a,rfl,_,hw⟩:=DataW.trod_int ht h;exact⟨a,hw,by simp[hc],.one rfl (.int k a)⟩
theorem jW.bool{t:TypeId}(ht:P.underlying t=some .bool)(hc:P.cellsOf t=1)(n:Nat):jW P t (fun x:Bool=>[PV.bool x]) (fun _=>True) n:=by intro H enc w base spare held fuel cs x _ h;obtain⟨a,rfl,_⟩:=DataW.trod_bool ht h;exact⟨a,trivial,by simp[hc],.one rfl (.bool a)⟩
theorem jW.str{t:TypeId}(ht:P.underlying t=some .string)(hc:P.cellsOf t=1)(n:Nat):jW P t (fun x:List UInt8=>[PV.str x]) (fun x=>x.length<=maxLen) n:=by intro H enc w base spare held fuel cs x _ h;obtain⟨a,rfl,_,hl⟩:=DataW.trod_string ht h;exact⟨a.data.toList,by simpa using hl,by simp[hc],.one rfl (.str _)⟩
theorem jW.map{α β:Type}{t:TypeId}{e:α->List PV}{ok:α->Prop}{e' :β->List PV}{ok' :β->Prop}{n:Nat}(h:jW P t e ok n)(f:α->β)
  (hf: ∀a,ok a->ok' (f a)/\e' (f a)=e a):jW P t e' ok' n:=by intro H enc w base spare held fuel cs x hn hx;obtain⟨a,h1,h2,h3⟩:=h H enc w base spare held fuel cs x hn hx;obtain⟨g1,g2⟩:=hf a h1;exact⟨f a,g1,by rw[g2];exact h2,by rw[g2];exact h3⟩
theorem jW.mono{α:Type}{t:TypeId}{e:α->List PV}{ok:α->Prop}{n m:Nat}(h:jW P t e ok n)(hm:m<=n):jW P t e ok m:=
 fun H enc w base spare held fuel cs x hn hx=>h H enc w base spare held fuel cs x (n! hn hm) hx
def slP(qu:Bool)(sz:Nat)(es:List (List PV)):PV:= .sl (qu&&es.isEmpty) (zV sz es) es
theorem TU{α:Type}{f:Nat->Option α}: ∀{n:Nat}{l:List α},(E? n).mapM f=some l->l.length=n/\ ∀i,i<n->f i=l[i]? :=by
 intro n l h;have key: ∀(k:Nat)(m:Nat)(l:List α),(q28 k m).mapM f=some l->l.length=m/\ ∀i,i<m->f (k+i)=l[i]? :=by intro k m;induction m generalizing k with|zero=>intro l h;simp at h;subst h;exact⟨rfl,fun i hi=>o?⟩|succ m ih=>intro l h;rw[q1c,q1l]at h;simp only[zF,R!,Option.pure_def,ki]at h;obtain⟨a,ha,r,hr,rfl⟩:=h;obtain⟨h1,h2⟩:=ih (k+1) r hr;refine⟨by simp[h1],fun i hi=>?_⟩;cases i with|zero=>simpa using ha|succ i=>have:=h2 i o?;rw[show k+(i+1)=k+1+i from o?,this];simp
 have:=key 0 n l (by rwa[<- M']);simpa using this
theorem XL{w:World}{base:Nat}{a:Addr}{n:Nat}{cs:List Value}(h:w.cells? base a n=some cs):cs.length=n/\ ∀i,i<n->w.cell? (a.add i)=cs[i]? :=by unfold World.cells? at h;split at h;exact TU h;cases h
theorem cell_lt{w:World}{a:Addr}{v:Value}(h:w.cell? a=some v):a.block<w.heap.size/\a.spot=none:=by unfold World.cell? at h;split at h;rename_i c t f hb;refine⟨?_, ?_⟩;rw[H!]at hb;exact hb.1;split at h;cases h;(rename_i hs;cases C2:a.spot with|none=>rfl|some s=>simp[C2]at hs);cases h
theorem BQ{α β:Type}{p:Nat->α->β->Prop}: ∀(l:List β),(∀ i b,l[i]? =some b-> ∃a,p i a b)-> ∃r:List α,r.length=l.length/\ ∀(i:Nat) a b,r[i]? =some a->l[i]? =some b->p i a b:=by intro l;induction l generalizing p with|nil=>intro _;exact⟨[],rfl,z?⟩|cons b l ih=>intro h;obtain⟨a,ha⟩:=h 0 b rfl;obtain⟨r,h1,h2⟩:=ih (p:=fun i=>p (i+1)) (fun i b' hb=>h (i+1) b' (by simpa using hb));refine⟨a::r,by simp[h1],fun i x y hx hy=>?_⟩;cases i with|zero=>simp at hx hy;subst hx;subst hy;exact ha|succ i=>exact h2 i x y (by simpa using hx) (by simpa using hy)
theorem jW.slice{α:Type}{t el:TypeId}{sz:Nat}{e:α->List PV}{ok:α->Prop}{n:Nat}(ht:P.underlying t=some (.slice el))(hc:P.cellsOf t=1)(mr:P.cellsOf el=sz)(pZ:0<sz)
  (h:jW P el e ok n):jW P t (fun x:Bool×List α=>[slP x.1 sz (x.2.map e)]) (fun x=>x.2.length<=maxLen/\ ∀a∈x.2,ok a) (n+1):=by
 intro H enc w base spare held fuel cs x hn hx;rcases DataW.trod_slice ht hx with ⟨rfl,_⟩|⟨a,len,cap,elems,rest,m,rfl,rfl,_,hb,hlc,hcm,P3,pY,_,_⟩;exact⟨(true,[]),⟨z?,z?⟩,by simp[hc],.one rfl (.aS 0)⟩
 rw[mr]at pY;obtain⟨r,hr1,hr2⟩:=BQ (p:=fun i(y:α×List Value)(_:DataW H×List MemPlace)=>w.cells? base (a.add (i*sz)) sz=some y.2/\ok y.1/\(e y.1).length=sz/\DC w (e y.1) y.2) elems (fun i b hib=>by
  have hi:i<len:=P3 ▸ (qF hib).1
  have g:=pY i hi
  rw[hib,R!]at g
  obtain⟨cs,g1,g2⟩:=g
  obtain⟨y,k1,k2,k3⟩:=h H enc w base spare held m cs b o? g2
  exact⟨(y,cs),g1,k1,by rw[<- mr];exact k2,k3⟩)
 have hr3: ∀(i:Nat) y,r[i]? =some y->w.cells? base (a.add (i*sz)) sz=some y.2/\ok y.1/\(e y.1).length=sz/\DC w (e y.1) y.2:=by intro i y hy;have hi:i<elems.length:=hr1 ▸ (qF hy).1;exact hr2 i y elems[i] hy (by simp[hi])
 have C0:r.length=len:=by rw[hr1,P3]
 have Tw:r≠[]->a.block<w.heap.size/\a.spot=none:=by intro jz;obtain⟨y,r',rfl⟩:=List.exists_cons_of_ne_nil jz;obtain⟨g1,_⟩:=hr3 0 y rfl;obtain⟨c1,c2⟩:=XL g1;have:=c2 0 pZ;rw[show a.add (0*sz)=a from by simp[Addr.add],show a.add 0=a from by simp[Addr.add]]at this;have xJ:0<y.2.length:=o?;rw[wu xJ]at this;exact cell_lt this
 refine⟨(false,r.map (·.1)),⟨by simp[C0];omega,fun z hz=>?_⟩,by simp[hc], ?_⟩;obtain⟨y,hy,rfl⟩:=N?.1 hz;obtain⟨i,hi⟩:=kb hy;exact(hr3 i y hi).2.1;refine .one rfl ?_;simp only[slP,Bool.false_and,List.map_map];show RP _ _ (A0 false sz _) _;obtain⟨ab,ao,DT⟩:=a;have hlen:(r.map ((fun x=>e x) ∘ fun x=>x.1)).length=len:=by simp[C0]
 rw[<- hlen];have hmap: ∀(i:Nat) l,(r.map ((fun x=>e x) ∘ fun x=>x.1))[i]? =some l-> ∃y,r[i]? =some y/\l=e y.1:=by intro i l hl;simp only[X?,yR,Function.comp]at hl;obtain⟨y,h1,h2⟩:=hl;exact⟨y,h1,h2.symm⟩
 have Wg: ∀(i:Nat) y,r[i]? =some y-> ∀j,j<sz->w.cell? ⟨ab,ao+(i*sz+j),none⟩=y.2[j]? :=by intro i y hy j hj;obtain⟨g1,_⟩:=hr3 i y hy;obtain⟨c1,c2⟩:=XL g1;have C2:=(Tw (fun h0=>by rw[h0]at hy;simp at hy)).2;simp only at C2;subst C2;rw[<- c2 j hj];congr 1;unfold Addr.add;by_cases h1:i*sz=0<;>by_cases h2:j=0<;>simp[h1,h2]<;>omega
 refine RP.mk ?_;refine .sl sz _ ab ao cap (fun k=>(r[k / sz]?.bind fun y=>y.2[k % sz]?).getD undef) (fun jz=>(Tw (fun h0=>jz (by rw[h0];rfl))).1) (by rw[List.length_map,C0];exact hlc) (fun l hl=>?_) (fun i hi=>?_) (fun i l j p h1 h2=>?_) (fun i l j p h1 h2=>?_) DT
  (fun jz=>(Tw (fun h0=>jz (by rw[h0];rfl))).2)
 obtain⟨i,hi⟩:=kb hl;obtain⟨y,hy,rfl⟩:=hmap i l hi;exact(hr3 i y hy).2.2.1;rw[hlen]at hi;have hq:i / sz<len:=Nat.div_lt_of_lt_mul (by rw[X!];exact hi);have hm:=Nat.mod_lt i pZ;have EJ:i / sz<r.length:=o?;have hy:r[i / sz]? =some r[i / sz]:=wu EJ;have g:=Wg (i / sz) _ hy (i % sz) hm;rw[show i / sz*sz+i % sz=i from by rw[X!];exact Nat.div_add_mod i sz]at g;rw[g,hy];simp only[qS];obtain⟨g1,_,g3,g4⟩:=hr3 _ _ hy;obtain⟨c1,_⟩:=XL g1;have:i % sz<(r[i / sz]).2.length:=o?;rw[wu this];rfl;obtain⟨y,hy,rfl⟩:=hmap i l h1;exact(hr3 i y hy).2.2.2.2.1 p (z6 h2);obtain⟨y,hy,rfl⟩:=hmap i l h1;obtain⟨g1,_,g3,g4,g5,g6⟩:=hr3 i y hy;have hj:j<sz:=g3 ▸ (qF h2).1;have e1:(i*sz+j) / sz=i:=by rw[X!,Nat.mul_add_div pZ,Nat.div_eq_of_lt hj,M?]
 have e2:(i*sz+j) % sz=j:=by rw[X!,Nat.mul_add_mod,Nat.mod_eq_of_lt hj]
 have Vr:j<y.2.length:=by rw[<- g4];omega
 simp only[e1,e2,hy,qS,wu Vr,c!];exact g6 j p _ h2 (wu Vr)
def rF{α:Type}(P:Program)(fs:List Field)(e:α->List PV)(ok:α->Prop)(n off:Nat):Prop:=
 ∀(H:Type)(enc:TypeId×Value->H)(w:World)(base:Nat)(spare:Nat->Bool)(held:Bool)(fuel:Nat)(cs:List Value),fuel<=n->off<=cs.length->
  (∀ f∈fs,∃ x,DataW.trod enc P w base spare held fuel f.type ((cs.drop f.offset).take (P.cellsOf f.type))=some x)->
  ∃(a:α)(m:Nat),ok a/\(e a).length=m/\off+m<=cs.length/\DC w (e a) ((cs.drop off).take m)
theorem rF.nil(n off:Nat):rF P [] (fun _:Unit=>[]) (fun _=>True) n off:=by intro H enc w base spare held fuel cs _ ho _;exact⟨(),0,trivial,rfl,by simpa using ho,by simpa using DC.nil⟩
theorem rF.cons{α β:Type}{f:Field}{fs:List Field}{e1:α->List PV}{ok1:α->Prop}{e2:β->List PV}{ok2:β->Prop}{n off c:Nat}(ho:f.offset=off)(hc:P.cellsOf f.type=c)
  (h1:jW P f.type e1 ok1 n) (h2:rF P fs e2 ok2 n (off+c)):rF P (f::fs) (fun x:α×β=>e1 x.1++e2 x.2) (fun x=>ok1 x.1/\ok2 x.2) n off:=by intro H enc w base spare held fuel cs hn l7 Lb;obtain⟨x,hx⟩:=Lb f z?;rw[hc,ho]at hx;obtain⟨a,a1,a2,a3⟩:=h1 H enc w base spare held fuel _ x hn hx;rw[hc]at a2;have hl:=a3.1;rw[a2,List.length_take,List.length_drop]at hl;have sE:off+c<=cs.length:=o?;obtain⟨b,m,b1,b2,b3,b4⟩:=h2 H enc w base spare held fuel cs hn sE (fun f' Hm=>Lb f' (by simp[Hm]));refine⟨(a,b),c+m,⟨a1,b1⟩,by simp[a2,b2],o?, ?_⟩;have:=a3.append b4;rwa[show (cs.drop off).take c++(cs.drop (off+c)).take m=(cs.drop off).take (c+m)from by rw[List.take_add,q1q]]at this
theorem jW.struct{α:Type}{t:TypeId}{fs:Array Field}{e:α->List PV}{ok:α->Prop}{n c:Nat}(ht:P.underlying t=some (.struct fs))(hc:P.cellsOf t=c)(hlen: ∀a,(e a).length=c)
  (h:rF P fs.toList e ok n 0):jW P t e ok (n+1):=by
 intro H enc w base spare held fuel cs x hn hx;obtain⟨xs,m,rfl,_,hl,hxl,hf⟩:=DataW.trod_struct ht hx;obtain⟨a,k,h1,h2,h3,h4⟩:=h H enc w base spare held m cs o? (B! _) (fun f hfm=>by
  obtain⟨i,hi⟩:=kb hfm
  have yw:fs[i]? =some f:=by rw[<- H?];exact hi
  have xJ:i<xs.length:=by
   rw[hxl]
   exact(H!.1 yw).1
  exact⟨xs[i],by rw[hf i f yw,wu xJ]⟩)
 have:k=c:=by rw[<- h2];exact hlen a
 subst this;refine⟨a,h1,by rw[h2,hc], ?_⟩;rwa[List.drop_zero,List.take_of_length_le (by rw[hl,hc];exact jx _)]at h4
end
end Go.Gm
namespace Go.Gm
open Go Go.ChangeShapes Go.WideShapes Go.RowKit
theorem QZ{H:Type}{enc:TypeId×Value->H}{P:Program}(hl:laidOutB P=true){W W' :World}{sp' :Nat->Bool}:
  ∀{ts:List TypeId}{vs:List Value}{ds:List (DataW H)}{ps:List MemPlace},(∀ t∈ts,P.readableRec t=true/\t<P.types.size)->
  DataW.TrodAll enc P W 0 (fun _=>true) true ts vs ds ps->(∀ p∈ps,W.sameAt W' p)->(∀ p∈ps,sp' p.block=true)->DataW.TrodAll enc P W' 0 sp' true ts vs ds ps
 |[],vs,ds,ps,_,h,_,_=>by obtain⟨rfl,rfl,rfl⟩:=trodAll_nil h;exact trodAll_mk0
 |t::ts,vs,ds,ps,hr,h,hs,hp=>by
  obtain⟨v,ei,d,SF,p,q,rfl,rfl,rfl,h1,h2⟩:=trodAll_cons h;have:=hr t z?;exact trodAll_cons_mk (WideElems.Trod_stays hl this.1 this.2 h1 (fun x hx=>hs x (by simp[hx])) (fun x hx=>hp x (by simp[hx])))
   (QZ hl (fun t ht=>hr t (by simp[ht])) h2 (fun x hx=>hs x (by simp[hx])) (fun x hx=>hp x (by simp[hx])))
theorem JJ{H:Type}{enc:TypeId×Value->H}{P:Program}{w:World}{base:Nat}{spare:Nat->Bool}{held:Bool}:
  ∀{ts:List TypeId}{vs:List Value}{ds:List (DataW H)}{ps:List MemPlace},DataW.TrodAll enc P w base spare held ts vs ds ps->ts.length=vs.length/\ds.length=ts.length
 |[],vs,ds,ps,h=>by obtain⟨rfl,rfl,rfl⟩:=trodAll_nil h;exact⟨rfl,rfl⟩
 |t::ts,vs,ds,ps,h=>by obtain⟨v,ei,d,SF,p,q,rfl,rfl,rfl,h1,h2⟩:=trodAll_cons h;obtain⟨a,b⟩:=JJ h2;exact⟨by simp[a],by simp[b]⟩
def dY{α:Type}(P:Program)(t:TypeId)(e:α->PV)(ok:α->Prop):Prop:=
 ∀(H:Type)(enc:TypeId×Value->H)(w:World)(base ly:Nat)(spare:Nat->Bool)(held:Bool)(v:Value)(d:DataW H)(ps:List MemPlace),Value.okWide P w .any ly t v->
  DataW.Trod enc P w base spare held t v d ps-> ∃a:α,ok a/\RP w (U7 w) (e a) v
theorem dY.struct{α:Type}{P:Program}{t:TypeId}{fs:Array Field}{e:α->List PV}{ok:α->Prop}(ht:P.underlying t=some (.struct fs))(h: ∀n,jW P t e ok n):dY P t (fun a=> .agg (e a)) ok:=by intro H enc w base ly spare held v d ps dn ⟨fuel,hv⟩;simp only[Value.okWide,ht]at dn;obtain⟨cs,rfl,_,_⟩:=dn;obtain⟨a,h1,h2,h3⟩:=h fuel H enc w base spare held fuel _ _ (jx _) hv;refine⟨a,h1, ?_⟩;obtain⟨l⟩:=cs;exact .agg _ _ h3.1 h3.2.1 h3.2.2
def oneD:TypeDesc->Bool
 | .bool| .int _| .string| .slice _=>true
 |_=>false
theorem dY.one{α:Type}{P:Program}{t:TypeId}{td:TypeDesc}{e:α->PV}{ok:α->Prop}(ht:P.underlying t=some td)(hd:oneD td=true)(h: ∀n,jW P t (fun a=>[e a]) ok n):dY P t e ok:=by
 intro H enc w base ly spare held v d ps dn ⟨fuel,hv⟩;obtain⟨a,h1,h2,h3⟩:=h fuel H enc w base spare held fuel _ _ (jx _) hv;refine⟨a,h1, ?_⟩;have hc:v.cells= #[v]:=by simp only[Value.okWide,ht]at dn;cases td<;>simp[oneD]at hd<;>simp only[Cell.okWide,ht]at dn<;>cases v<;>simp_all [Cell.ok,Value.cells]
 exact h3.2.2 0 _ v rfl (by rw[hc];rfl)
def we{β:Type}(P:Program)(ts:List TypeId)(e:β->List PV)(ok:β->Prop):Prop:=
 ∀(H:Type)(enc:TypeId×Value->H)(w:World)(base ly:Nat)(spare:Nat->Bool)(held:Bool)(vs:List Value)(ds:List (DataW H))(ps:List MemPlace),
  (∀(j:Nat) t v,ts[j]? =some t->vs[j]? =some v->Value.okWide P w .any ly t v)->DataW.TrodAll enc P w base spare held ts vs ds ps->
  ∃b:β,ok b/\(e b).length=vs.length/\ ∀(i:Nat) p v,(e b)[i]? =some p->vs[i]? =some v->RP w (U7 w) p v
theorem we.nil{P:Program}:we P [] (fun _:Unit=>[]) (fun _=>True):=by intro H enc w base ly spare held vs ds ps _ h;obtain⟨rfl,rfl,rfl⟩:=trodAll_nil h;exact⟨(),trivial,rfl,z?⟩
theorem we.cons{α β:Type}{P:Program}{t:TypeId}{ts:List TypeId}{e1:α->PV}{ok1:α->Prop}{e2:β->List PV}{ok2:β->Prop}(h1:dY P t e1 ok1)(h2:we P ts e2 ok2):
  we P (t::ts) (fun x:α×β=>e1 x.1::e2 x.2) (fun x=>ok1 x.1/\ok2 x.2):=by intro H enc w base ly spare held vs ds ps dn h;obtain⟨v,ei,d,SF,p,q,rfl,rfl,rfl,r1,r2⟩:=trodAll_cons h;obtain⟨a,a1,a2⟩:=h1 H enc w base ly spare held v d p (dn 0 t v rfl rfl) r1;obtain⟨b,b1,b2,b3⟩:=h2 H enc w base ly spare held ei SF q (fun j t v x y=>dn (j+1) t v (by simpa using x) (by simpa using y)) r2;refine⟨(a,b),⟨a1,b1⟩,by simp[b2],fun i x y hx hy=>?_⟩;cases i with|zero=>simp at hx hy;subst hx;subst hy;exact a2|succ i=>exact b3 i x y (by simpa using hx) (by simpa using hy)
theorem we.weaken{β:Type}{P:Program}{ts:List TypeId}{e:β->List PV}{ok:β->Prop}(h:we P ts e ok):we P ts e fun _=>True:=by intro H enc w base ly spare held vs ds ps dn hh;obtain⟨b,_,h2,h3⟩:=h H enc w base ly spare held vs ds ps dn hh;exact⟨b,trivial,h2,h3⟩
theorem Hv[xg]{P:Program}{G:GP}{S:pj}(hm:P.follows .mixedOrders=true)(hG:yB P G)(hF:Dz P G)(hS:Qe P S)(hl:laidOutB P=true)
  {f:FuncId} {fn:Func} {tb:TypeId} (hres:fn.resultTypes= #[tb]) (htb:P.underlying tb=some .bool) {s:ChangeSpec} (hvars:s.vars=[])
  (hread: ∀t∈fn.params.toList,P.readableRec t=true/\t<P.types.size)
  (LF: ∀(H:Type)(ds:List (DataW H)),ds.length=fn.params.toList.length->s.fn H ds={ results:=[.lit (.bool true)],args:=ds })
  {β:Type} {e:β->List PV} {ok:β->Prop} (SO:we P fn.params.toList e ok)
  (dw: ∀b,ok b-> ∃H',(omega G S).call f ((e b).map .pv) []=some (.pv (.bool true),H'))
  {H:Type} {enc:TypeId×Value->H} {W:World} {base:Nat} {args:Array Value} {ds gs:List (DataW H)} {before:List MemPlace}
  (K1: ∀(j:Nat) t v,fn.params[j]? =some t->args[j]? =some v->Value.okWide P W .any base t v)
  (hW:DataW.Whole enc P fn.params.toList s.vars false W args.toList ds gs before) (hgl:xg.ok W/\ ∀b,xg.on b->b<W.heap.size):
  Calls P f args W fun e W' => ∃v,e= .returned v/\s.post enc P fn false true false false W args v W' :=by
 have hW' :=hW;obtain⟨p,q,hA,hV,rfl,hfz,EI⟩:=hW;obtain⟨vs⟩:=args;rw[hvars]at hV;obtain⟨rfl,rfl⟩:=trodVars_none hV;obtain⟨hl1,P7⟩:=JJ hA;obtain⟨b,b1,b2,b3⟩:=SO H enc W 0 base _ _ vs ds p (fun j t v h1 h2=>K1 j t v (by rw[<- H?];exact h1) (by rw[<- H?];exact h2)) hA;obtain⟨H',hc⟩:=dw b b1;have dn:=q0K hm hG hF hS hc W (fun _=>⟨0,0,[]⟩) (U7 W) vs (old_inv W _ hgl) (by simpa using b2) (fun i x v h1 h2=>by
  simp only[X?,yR]at h1
  obtain⟨y,hy,rfl⟩:=h1
  exact .pv _ _ (b3 i y v hy h2))
 refine dn.mono fun en W'⟨v,ι',jV,h1,h2,h3,h4⟩=>?_;subst h1;have hv:v= .bool true:=by have:=h4.gC;cases this;rfl
 subst hv;have Li: ∀k,k<W.heap.size->W'.heap[k]? =W.heap[k]? :=fun k hk=>h3.kD k hk fun β x hx=>by cases hx
 have xJ: ∀x∈p,x.block<W.heap.size:=fun x hx=>hW'.lt x (by simp[hx]);have Jt: ∀x∈p,W.sameAt W' x:=fun x hx=>by cases x with|cell b o=>exact World.cell?_of_block (w:=W) (Li b (xJ _ hx))|map b=>exact Li b (xJ _ hx)
 refine⟨_,rfl,ds,[],p++[],[],p,[],hW', ?_, ?_, ?_, ?_,fun h=>by cases h⟩;rw[T_,LF H ds P7,hres];exact trodAll_cons_mk (shut_bool htb true) trodAll_mk0;rw[T_,LF H ds P7];exact QZ hl hread hA Jt (fun x hx=>by simpa using xJ x hx);rw[hvars];rw[T_,LF H ds P7];rfl;refine⟨h3.io.1,h3.io.2,fun i hi=>?_⟩;rw[Li i hi];split<;>simp_all
end Go.Gm
namespace Go.Gm
open Go
structure O3 (b:Bool):Prop where
 h:b=true
inductive Fr where
 |code (c:Code)
 |upto (id:Nat)
 |pR (l:List Dx)
def cont(G:GP)(O:xm)(f:FuncId):List Fr->Ex×St->Option (Ex×St)
 |[],x=>some x
 | .upto id::r,(.exit i,s)=>if i=id then cont G O f r (.normal,s)else cont G O f r (.exit i,s)
 | .upto _::r,(.normal,s)=>cont G O f r (.normal,s)
 | .upto _::r,(.ret,s)=>cont G O f r (.ret,s)
 | .pR l::r,(.normal,s)=>cont G O f r (.normal,Gm.pR l s)
 | .pR _::r,(.exit i,s)=>cont G O f r (.exit i,s)
 | .pR _::r,(.ret,s)=>cont G O f r (.ret,s)
 | .code c::r,(.normal,s)=>match exec G O f c s with
  |some x=>cont G O f r x
  |none=>none
 | .code _::r,(.exit i,s)=>cont G O f r (.exit i,s)
 | .code _::r,(.ret,s)=>cont G O f r (.ret,s)
def WJ(G:GP)(O:xm)(f:FuncId)(all l:List Oper)(s:St)(r:List Fr):Option (Ex×St):=
 match XJ G O all l s with
 |some s' =>cont G O f r (.normal,s')
 |none=>none
def K5(G:GP)(O:xm)(f:FuncId)(all:List Oper)(tm:Bool)(i:Nat)(l:List Oper)(s:St)(log:List (Nat×List Nat×List Nat))(r:List Fr):Option (Ex×St):=
 match fc G O all tm i l s log with
 |some s' =>cont G O f r (.normal,s')
 |none=>none
def effX(G:GP)(O:xm)(f:FuncId)(all l:List Oper)(d:Option Tmp)(E:yp)(H:qr)(r:List Fr):Option mC->Option (Ex×St)
 |some (v,ws,nx)=>WJ G O f all l ⟨fq d v E,qZ ws H,nx⟩ r
 |none=>none
def effD(G:GP)(O:xm)(f:FuncId)(all:List Oper)(tm:Bool)(i:Nat)(l:List Oper)(d:Option Tmp)(E:yp)(H:qr)(rd:List Nat)(log:List (Nat×List Nat×List Nat))(r:List Fr):Option mC->Option (Ex×St)
 |some (v,ws,nx)=>K5 G O f all tm i l ⟨fq d v E,qZ (eK tm rd H ws) H,nx⟩ ((i-1,rd,(eK tm rd H ws).map (·.1))::log) r
 |none=>none
section
variable {G:GP} {O:xm} {f:FuncId}
theorem X_one(c:Code)(s:St):exec G O f c s=cont G O f [.code c] (.normal,s):=by simp only[cont];split<;>simp_all
theorem X_nil(x:Ex×St):cont G O f [] x=some x:=rfl
theorem X_uptoN(id:Nat)(r:List Fr)(s:St):cont G O f (.upto id::r) (.normal,s)=cont G O f r (.normal,s):=rfl
theorem X_uptoR(id:Nat)(r:List Fr)(s:St):cont G O f (.upto id::r) (.ret,s)=cont G O f r (.ret,s):=rfl
theorem X_uptoE(id i:Nat)(r:List Fr)(s:St):cont G O f (.upto id::r) (.exit i,s)=if i=id then cont G O f r (.normal,s)else cont G O f r (.exit i,s):=rfl
theorem X_codeR(c:Code)(r:List Fr)(s:St):cont G O f (.code c::r) (.ret,s)=cont G O f r (.ret,s):=rfl
theorem X_codeE(c:Code)(i:Nat)(r:List Fr)(s:St):cont G O f (.code c::r) (.exit i,s)=cont G O f r (.exit i,s):=rfl
theorem X_skip(r:List Fr)(s:St):cont G O f (.code .skip::r) (.normal,s)=cont G O f r (.normal,s):=rfl
theorem X_ret(r:List Fr)(s:St):cont G O f (.code .ret::r) (.normal,s)=cont G O f r (.ret,s):=rfl
theorem X_exit(i:Nat)(r:List Fr)(s:St):cont G O f (.code (.exit i)::r) (.normal,s)=cont G O f r (.exit i,s):=rfl
theorem X_seq(a b:Code)(r:List Fr)(s:St):cont G O f (.code (.seq a b)::r) (.normal,s)=cont G O f (.code a:: .code b::r) (.normal,s):=by simp only[cont,exec];cases exec G O f a s with|none=>rfl|some x=>obtain⟨e,s'⟩:=x;cases e<;>rfl
theorem X_cond(c:Operand)(t e:Code)(r:List Fr)(s:St):cont G O f (.code (.cond c t e)::r) (.normal,s)=match ev s.env c with
  | .pv (.bool b)=>if b=true then cont G O f (.code t::r) (.normal,s)else cont G O f (.code e::r) (.normal,s)
  |_=>none:=by
 simp only[cont,exec];cases ev s.env c with
 |pv p=>cases p with
  |bool b=>cases b<;>rfl
  |_=>rfl
 |_=>rfl
def q00:Code->Bool
 | .loop _=>true
 |_=>false
theorem oa(id:Nat)(c:Code)(r:List Fr)(s:St)(hl:q00 c=false):cont G O f (.code (.block id c)::r) (.normal,s)=cont G O f (.code c:: .upto id::r) (.normal,s):=by
 have hex:exec G O f (.block id c) s=match exec G O f c s with
   |some (.exit i,s')=>if i=id then some (.normal,s')else some (.exit i,s')
   |some (.normal,s')=>some (.normal,s')
   |some (.ret,s')=>some (.ret,s')
   |none=>none:=by
  cases c<;>first|rfl|(simp [q00]at hl)
 simp only[cont,hex];cases exec G O f c s with|none=>rfl|some x=>obtain⟨e,s'⟩:=x;cases e with|exit i=>by_cases h:i=id<;>simp[cont,h]|_=>rfl
theorem Oa(id:Nat)(a b:Code)(r:List Fr)(s:St):cont G O f (.code (.block id (.seq a b))::r) (.normal,s)=cont G O f (.code (.seq a b):: .upto id::r) (.normal,s):=oa _ _ _ _ rfl
theorem O6(id i:Nat)(a:Code)(r:List Fr)(s:St):cont G O f (.code (.block id (.block i a))::r) (.normal,s)=cont G O f (.code (.block i a):: .upto id::r) (.normal,s):=oa _ _ _ _ rfl
theorem O7(id:Nat)(c:Operand)(a b:Code)(r:List Fr)(s:St):cont G O f (.code (.block id (.cond c a b))::r) (.normal,s)=cont G O f (.code (.cond c a b):: .upto id::r) (.normal,s):=oa _ _ _ _ rfl
theorem O9(id i:Nat)(a:Array Oper)(d:Bool)(r:List Fr)(s:St):cont G O f (.code (.block id (.region i a d))::r) (.normal,s)=cont G O f (.code (.region i a d):: .upto id::r) (.normal,s):=oa _ _ _ _ rfl
theorem Oc(id i:Nat)(r:List Fr)(s:St):cont G O f (.code (.block id (.exit i))::r) (.normal,s)=cont G O f (.code (.exit i):: .upto id::r) (.normal,s):=oa _ _ _ _ rfl
theorem O8(id:Nat)(r:List Fr)(s:St):cont G O f (.code (.block id .skip)::r) (.normal,s)=cont G O f r (.normal,s):=by rw[oa _ _ _ _ rfl];rfl
theorem Ob(id:Nat)(r:List Fr)(s:St):cont G O f (.code (.block id .ret)::r) (.normal,s)=cont G O f r (.ret,s):=by rw[oa _ _ _ _ rfl];rfl
def q0e(G:GP)(O:xm)(f:FuncId)(id:Nat)(r:List Fr):Option St->Option (Ex×St)
 |some s=>match O.loop f id s with
  |some x=>cont G O f r x
  |none=>none
 |none=>none
theorem X_loop(id:Nat)(c:Code)(r:List Fr)(s:St):cont G O f (.code (.block id (.loop c))::r) (.normal,s)=q0e G O f id r (ez (G.spec f id) s):=by simp only[cont,exec,q0e];cases ez (G.spec f id) s with|none=>rfl|some s1=>rfl
theorem TR(id:Nat)(r:List Fr)(s:St):q0e G O f id r (some s)=match O.loop f id s with
  |some x=>cont G O f r x
  |none=>none:=rfl
theorem OU(l o p q r s):ez ⟨l,o,p,q,r,0⟩ s=some (enter ⟨l,o,p,q,r,0⟩ s):=rfl
theorem again_0(l o p q r n s):again ⟨l,o,p,q,r,0⟩ n s=narrow l n s:=rfl
theorem leave_0(l o p q r n s):leave ⟨l,o,p,q,r,0⟩ n s=some (i9 o n s):=rfl
def Xm(n:Nat):Option St->Option St
 |some s1=>if s1.nx=n then some s1 else none
 |none=>none
theorem RW(n:Nat)(E H k):Xm n (some ⟨E,H,k⟩)=if k=n then some ⟨E,H,k⟩else none:=rfl
theorem OV(l o p q r s):ez ⟨l,o,p,q,r,1⟩ s=Xm (s.nx+1) (canon l s.nx (enter ⟨l,o,p,q,r,1⟩ s)):=rfl
theorem OW(l o p q r s):ez ⟨l,o,p,q,r,2⟩ s=Xm (s.nx+2) (canon l s.nx (enter ⟨l,o,p,q,r,2⟩ s)):=rfl
theorem OX(l o p q r s):ez ⟨l,o,p,q,r,3⟩ s=Xm (s.nx+3) (canon l s.nx (enter ⟨l,o,p,q,r,3⟩ s)):=rfl
theorem OY(l o p q r s):ez ⟨l,o,p,q,r,4⟩ s=Xm (s.nx+4) (canon l s.nx (enter ⟨l,o,p,q,r,4⟩ s)):=rfl
theorem again_1(l o p q r n s):again ⟨l,o,p,q,r,1⟩ n s=Xm n (canon l (n-1) (xe q (kc p s))):=rfl
theorem again_2(l o p q r n s):again ⟨l,o,p,q,r,2⟩ n s=Xm n (canon l (n-2) (xe q (kc p s))):=rfl
theorem again_3(l o p q r n s):again ⟨l,o,p,q,r,3⟩ n s=Xm n (canon l (n-3) (xe q (kc p s))):=rfl
theorem again_4(l o p q r n s):again ⟨l,o,p,q,r,4⟩ n s=Xm n (canon l (n-4) (xe q (kc p s))):=rfl
theorem leave_1(l o p q r n s):leave ⟨l,o,p,q,r,1⟩ n s=canon o (n-1) s:=rfl
theorem leave_2(l o p q r n s):leave ⟨l,o,p,q,r,2⟩ n s=canon o (n-2) s:=rfl
theorem leave_3(l o p q r n s):leave ⟨l,o,p,q,r,3⟩ n s=canon o (n-3) s:=rfl
theorem leave_4(l o p q r n s):leave ⟨l,o,p,q,r,4⟩ n s=canon o (n-4) s:=rfl
def keptL(l:List Nat)(n:Nat)(s:St):Option St:=if n<=s.nx then some { s with env:=restrict s.env l }else none
theorem keptL_S(l:List Nat)(n E H k):keptL l n ⟨E,H,k⟩=if n<=k then some ⟨restrict E l,H,k⟩else none:=rfl
theorem PS(l o p q r n s):again ⟨l,o,p,q,r,1000⟩ n s=keptL l n (xe q (kc p s)):=by unfold again;rw[if_pos rfl];rfl
theorem X_cmds0(r:List Fr)(s:St):cont G O f (.pR []::r) (.normal,s)=cont G O f r (.normal,s):=rfl
theorem X_cmdsC(c:Dx)(l:List Dx)(r:List Fr)(s:St):cont G O f (.pR (c::l)::r) (.normal,s)=cont G O f (.pR l::r) (.normal,VN c s):=rfl
theorem Od(id:Nat)(ops:Array Oper)(r:List Fr)(s:St):cont G O f (.code (.region id ops false)::r) (.normal,s)=WJ G O f ops.toList ops.toList (pR (G.cmd f (2*id)) s) (.pR (G.cmd f (2*id+1))::r):=by simp only[cont,exec,WJ];cases XJ G O ops.toList ops.toList (pR (G.cmd f (2*id)) s)<;>rfl
theorem DF(id:Nat)(ops:Array Oper)(r:List Fr)(s:St):cont G O f (.code (.region id ops true)::r) (.normal,s)=K5 G O f ops.toList (Q8 (G.pre f id)) 0 ops.toList (pres G f id (pR (G.cmd f (2*id)) s)) [] (.pR (G.cmd f (2*id+1))::r):=by simp only[cont,exec,K5];cases fc G O ops.toList (Q8 (G.pre f id)) 0 ops.toList (pres G f id (pR (G.cmd f (2*id)) s)) []<;>rfl
theorem pres_S(f:FuncId)(id:Nat)(E:yp)(H:qr)(nx:Nat):pres G f id ⟨E,H,nx⟩=uW (dq E H (G.pre f id)) ⟨E,H,nx⟩:=rfl
theorem Y_nil(all:List Oper)(s:St)(r:List Fr):WJ G O f all [] s r=cont G O f r (.normal,s):=rfl
theorem Y_op(all:List Oper)(d:Option Tmp)(o:Op)(ty:TypeId)(ps:String)(af:Array Edge)(l:List Oper)(E:yp)(H:qr)(nx:Nat)(r:List Fr):
  WJ G O f all (⟨d,o,ty,ps,af,none⟩::l) ⟨E,H,nx⟩ r=match uW (NT G o E) ⟨E,H,nx⟩with
   |⟨E',H',n'⟩=>effX G O f all l d E' H' r (mD G O o E' H' n'):=by
 simp only[WJ,XJ,yC,Xp];generalize uW (NT G o E) ⟨E,H,nx⟩=s;obtain⟨E',H',n'⟩:=s;simp only;cases mD G O o E' H' n' with
 |none=>rfl
 |some e=>obtain⟨v,ws,k⟩:=e;rfl
theorem Y_guard(all:List Oper)(d:Option Tmp)(o:Op)(ty:TypeId)(ps:String)(af:Array Edge)(g:Nat×Bool)(l:List Oper)(E:yp)(H:qr)(nx:Nat)(r:List Fr):
  WJ G O f all (⟨d,o,ty,ps,af,some g⟩::l) ⟨E,H,nx⟩ r=match yC all ⟨d,o,ty,ps,af,some g⟩ E with
   |some b=>if b=true then WJ G O f all (⟨d,o,ty,ps,af,none⟩::l) ⟨E,H,nx⟩ r else WJ G O f all l ⟨fq d (.xV []) E,H,nx⟩ r
   |none=>none:=by
 simp only[WJ,XJ];cases yC all ⟨d,o,ty,ps,af,some g⟩ E with
 |none=>rfl
 |some b=>cases b<;>simp[yC,Xp]
theorem Tn(all:List Oper)(d:Option Tmp)(o:Op)(ty:TypeId)(ps:String)(af:Array Edge)(j:Nat)(w:Bool)(E:yp):
  yC all ⟨d,o,ty,ps,af,some (j,w)⟩ E=match all[j]? with
   |some oj=>match oj.dst with
    |some d=>match E.get d with
     | .pv (.bool b)=>some (b==w)
     | .xV []=>some false
     |_=>none
    |none=>some false
   |none=>some false:=rfl
theorem Z_nil(all:List Oper)(tm:Bool)(i:Nat)(s:St)(log:List (Nat×List Nat×List Nat))(r:List Fr)(h:O3 (mK (wD [] all) log)):K5 G O f all tm i [] s log r=cont G O f r (.normal,s):=by simp only[K5,fc,h.h,if_true]
theorem Z_op(all:List Oper)(tm:Bool)(i:Nat)(d:Option Tmp)(o:Op)(ty:TypeId)(ps:String)(af:Array Edge)(l:List Oper)(E:yp)(H:qr)(nx:Nat)(log:List (Nat×List Nat×List Nat))(r:List Fr):
  K5 G O f all tm i (⟨d,o,ty,ps,af,none⟩::l) ⟨E,H,nx⟩ log r=effD G O f all tm (i+1) l d E H (tB o E H) log r (mD G O o E H nx):=by simp only[K5,fc,yC];cases mD G O o E H nx with|none=>rfl|some e=>obtain⟨v,ws,k⟩:=e;rfl
theorem Z_guard(all:List Oper)(tm:Bool)(i:Nat)(d:Option Tmp)(o:Op)(ty:TypeId)(ps:String)(af:Array Edge)(g:Nat×Bool)(l:List Oper)(E:yp)(H:qr)(nx:Nat)(log:List (Nat×List Nat×List Nat))(r:List Fr):
  K5 G O f all tm i (⟨d,o,ty,ps,af,some g⟩::l) ⟨E,H,nx⟩ log r=match yC all ⟨d,o,ty,ps,af,some g⟩ E with
   |some b=>if b=true then K5 G O f all tm i (⟨d,o,ty,ps,af,none⟩::l) ⟨E,H,nx⟩ log r else K5 G O f all tm (i+1) l ⟨fq d (.xV []) E,H,nx⟩ log r
   |none=>none:=by
 simp only[K5,fc];cases yC all ⟨d,o,ty,ps,af,some g⟩ E with
 |none=>rfl
 |some b=>cases b<;>simp[yC,Xp]
theorem Fe(all l:List Oper)(d:Option Tmp)(E:yp)(H:qr)(r:List Fr)(v:AV)(ws:List (Nat×qE))(nx:Nat):
  effX G O f all l d E H r (some (v,ws,nx))=WJ G O f all l ⟨fq d v E,qZ ws H,nx⟩ r:=rfl
theorem Fdq(all l:List Oper)(d:Option Tmp)(E:yp)(H:qr)(r:List Fr):effX G O f all l d E H r none=none:=rfl
theorem Fc(all:List Oper)(i:Nat)(l:List Oper)(d:Option Tmp)(E:yp)(H:qr)(rd:List Nat)(log:List (Nat×List Nat×List Nat))(r:List Fr)(v:AV)(ws:List (Nat×qE))(nx:Nat):
  effD G O f all false (i+1) l d E H rd log r (some (v,ws,nx))=K5 G O f all false (i+1) l ⟨fq d v E,qZ ws H,nx⟩ ((i,rd,ws.map (·.1))::log) r:=rfl
theorem trimOff(l:List Nat)(h:Q8 l=false):Q8 l=false:=h
theorem bool_tt:(true==true)=true:=rfl
theorem bool_ff:(false==false)=true:=rfl
theorem bool_ft:(false==true)=false:=rfl
theorem bool_tf:(true==false)=false:=rfl
def ak(G:GP)(O:xm)(f:FuncId)(id n:Nat):Option (Ex×St)->Option (Ex×St)
 |some (.normal,s')=>match again (G.spec f id) n (uW (dq s'.env s'.heap (G.spec f id).freeze) s')with
  |some s'' =>O.loop f id s''
  |none=>none
 |some (.exit i,s')=>if i=id then left .normal (leave (G.spec f id) n s')else left (.exit i) (leave (G.spec f id) n s')
 |some (.ret,s')=>left .ret (leave (G.spec f id) n s')
 |none=>none
theorem RO(id n:Nat)(s:St):ak G O f id n (some (.normal,s))=match again (G.spec f id) n (uW (dq s.env s.heap (G.spec f id).freeze) s)with|some s'' =>O.loop f id s'' |none=>none:=rfl
theorem RN(id n i:Nat)(s:St):ak G O f id n (some (.exit i,s))=if i=id then left .normal (leave (G.spec f id) n s)else left (.exit i) (leave (G.spec f id) n s):=rfl
theorem RQ(id n:Nat)(s:St):ak G O f id n (some (.ret,s))=left .ret (leave (G.spec f id) n s):=rfl
theorem left_S(ex:Ex)(s:St):left ex (some s)=some (ex,s):=rfl
theorem L_step{fi:FI}(XP:G.fn f=some fi){id:Nat}{c:Code}(hc:zH fi.body id=some c)(s:St):
  mR G O f id s=ak G O f id s.nx (cont G O f [.code c] (.normal,s)):=by unfold mR;rw[XP];simp only[hc,X_one];cases cont G O f [.code c] (.normal,s)with|none=>rfl|some x=>obtain⟨e,s'⟩:=x;cases e<;>rfl
def fnE(G:GP)(f:FuncId)(m:Nat)(res:List ResultVar)(s:St):Option (AV×qr):=
 match aj G s res with
 |some vs=>finish m (G.sm f) (Q9 vs) s
 |none=>none
def Yx(G:GP)(f:FuncId)(m:Nat)(res:List ResultVar):Option (Ex×St)->Option (AV×qr)
 |some (.exit _,_)=>none
 |some (_,s)=>fnE G f m res (pR (G.cmd f 999999) s)
 |none=>none
theorem fnEnd_N(m:Nat)(res:List ResultVar)(s:St):Yx G f m res (some (.normal,s))=fnE G f m res (pR (G.cmd f 999999) s):=rfl
theorem fnEnd_R(m:Nat)(res:List ResultVar)(s:St):Yx G f m res (some (.ret,s))=fnE G f m res (pR (G.cmd f 999999) s):=rfl
theorem fnE_S(m:Nat)(res:List ResultVar)(E:yp)(H:qr)(nx:Nat):fnE G f m res ⟨E,H,nx⟩=match aj G ⟨E,H,nx⟩ res with|some vs=>finish m (G.sm f) (Q9 vs) ⟨E,H,nx⟩|none=>none:=rfl
theorem F_step{fi:FI}(XP:G.fn f=some fi){H:qr}(hk:uL 0 H=true)(args:List AV):
  Q2 G O f args H=Yx G f H.length fi.results (cont G O f [.code fi.body] (.normal,⟨rK 0 args,H,H.length⟩)):=by unfold Q2;rw[XP];simp only[hk,if_true,X_one];cases cont G O f [.code fi.body] (.normal,⟨rK 0 args,H,H.length⟩)with|none=>rfl|some x=>obtain⟨e,s'⟩:=x;cases e<;>rfl
theorem Co{S:pj}{nt:Nat}{ob:Option Code}{ra:Array ResultVar}(hs:S.call f=none)(XP:G.fn f=some ⟨nt,ra.toList,ob.get!⟩){c:Code}(hc:ob=some c){rs:List ResultVar}(hr:ra=⟨rs⟩){H:qr}
  (hk:uL 0 H=true) {args:List AV} {r:Option (AV×qr)}
  (h:Yx G f H.length rs (cont G (omega G S) f [.code c] (.normal,⟨rK 0 args,H,H.length⟩))=r):(omega G S).call f args H=r:=by subst hc hr;rw[R5 hs,F_step XP hk];exact h
theorem Cp{S:pj}{fi:FI}(XP:G.fn f=some fi){id:Nat}{c:Code}(hc:zH fi.body id=some c){s:St}{r:Option (Ex×St)}
  (h:ak G (omega G S) f id s.nx (cont G (omega G S) f [.code c] (.normal,s))=r):(omega G S).loop f id s=r:=by rw[R6,L_step XP hc];exact h
end
end Go.Gm
namespace Go.Gm
open Go Go.RowKit Go.Maps
set_option maxRecDepth 10000
def Nr:List (PV×PV×Nat)->Option (List Int)
 |[]=>some []
 |(.int .i64 k,_,_)::r=>match Nr r with
  |some l=>some (k::l)
  |none=>none
 |_=>none
def TE(x:Int):List Int->List Int
 |[]=>[x]
 |y::r=>if x<=y then x::y::r else y::TE x r
def pO:List Int->List Int
 |[]=>[]
 |x::r=>TE x (pO r)
theorem XV(x:Int): ∀l,(TE x l).Perm (x::l)
 |[]=> .refl _
 |y::r=>by simp only[TE];split;exact .refl _;exact((XV x r).cons y).trans (.swap x y r)
theorem Zu: ∀l,(pO l).Perm l
 |[]=> .refl _
 |x::r=>(XV x _).trans ((Zu r).cons x)
theorem C6(x:Int): ∀l,l.Pairwise (· <= ·)->(TE x l).Pairwise (· <= ·)
 |[],_=>by simp[TE]
 |y::r,h=>by simp only[TE];rw[J!]at h;split;rename_i hxy;refine J!.2 ⟨fun z hz=>?_,J!.2 h⟩;rcases U?.1 hz with rfl|hz;exact hxy;exact q12 hxy (h.1 z hz);rename_i hxy;refine J!.2 ⟨fun z hz=>?_,C6 x r h.2⟩;rcases U?.1 ((XV x r).mem_iff.1 hz)with rfl|hz;omega;exact h.1 z hz
theorem MI: ∀l,(pO l).Pairwise (· <= ·)
 |[]=> .nil
 |x::r=>C6 x _ (MI r)
theorem MJ(l l' :List Int)(h:l'.Perm l):l'.mergeSort (fun x y=>decide (x<=y))=pO l:=by
 have tr: ∀a b c:Int,decide (a<=b)=true->decide (b<=c)=true->decide (a<=c)=true:=fun a b c h1 h2=>by simp only[decide_eq_true_eq]at *; exact q12 h1 h2
 have to: ∀a b:Int,(decide (a<=b) || decide (b<=a))=true:=fun a b=>by simp only[z!,decide_eq_true_eq];exact Int.le_total a b
 refine List.Perm.eq_of_pairwise (le:=fun a b=>a<=b) (fun a b _ _ h1 h2=>Int.le_antisymm h1 h2) ?_ (MI l) (((List.mergeSort_perm l' _).trans h).trans (Zu l).symm);have:=List.pairwise_mergeSort tr to l';exact this.imp fun h=>by simpa using h
def C9(ks:List Int)(st:List Nat)(zR:Nat):Bool:=
 decide ks.Nodup&&ks.all (fun k=>decide (-9223372036854775808<=k)&&decide (k<=9223372036854775807))&&decide st.Nodup&&st.all (fun b=>decide (b<zR))&&decide (ks.length<=1099511627776)
def si:List (PV×PV×Nat)->List Nat
 |[]=>[]
 |e::r=>e.2.2::si r
def V6(fk:FuncId)(args:List AV)(H:qr):Option (AV×qr):=
 match args,H with
 |[.Z5 g [] [.ptr 0 0]],[(0,.box [.map 1]),(1,.map es zR)]=>match Nr es with
  |some ks=>if g=fk/\C9 ks (si es) zR=true then some (.row 2 (pO ks).length 0 (pO ks).length,[(0,.box [.map 1]),(1,.map es zR),(2,.row (pO ks).isEmpty (zV 1 (pO ks)) ((pO ks).map fun k=>[.int .i64 k]))])else none
  |none=>none
 |_,_=>none
theorem YJ: ∀{es:List (PV×PV×Nat)}{ks:List Int},Nr es=some ks->ks.length=es.length/\ ∀(i:Nat)(k x:PV)(b:Nat),es[i]? =some (k,x,b)-> ∃n,ks[i]? =some n/\k= .int .i64 n
 |[],ks,h=>by cases h;exact⟨rfl,z?⟩
 |(p,v,b)::r,ks,h=>by cases p with|int kd k=>(cases kd<;>simp only[Nr]at h<;>try cases h);split at h;(rename_i l hl;cases h;obtain⟨h1,h2⟩:=YJ hl;refine⟨by simp[h1],fun i k' x b' hi=>?_⟩;cases i with|zero=>simp at hi;obtain⟨rfl,_⟩:=hi;exact⟨k,rfl,rfl⟩|succ i=>simpa using h2 i k' x b' (by simpa using hi));cases h|_=>simp[Nr]at h
theorem oL: ∀es,si es=es.map (·.2.2)
 |[]=>rfl
 |e::r=>by simp[si,oL r]
theorem Nn{H:Type}(x:Lit×DataW H): ∀l,(DataW.insert x l).Perm (x::l)
 |[]=> .refl _
 |y::r=>by simp only[DataW.insert];split;exact .refl _;exact((Nn x r).cons y).trans (.swap x y r)
theorem XW{H:Type}: ∀l:List (Lit×DataW H),(l.foldr DataW.insert []).Perm l
 |[]=> .refl _
 |x::r=>(Nn x _).trans ((XW r).cons x)
theorem zc.below[xg]{w w' :World}{H:qr}{ι:yq}{Im:Nat->Prop}(hi:zc w H ι Im)(hb:Below w.heap.size w w'):
    zc w' H ι (fun b=>Im b\/(w.heap.size<=b/\b<w'.heap.size))/\wR w H ι Im w' H ι (fun b=>Im b\/(w.heap.size<=b/\b<w'.heap.size)):=by
  have he:wR w H ι Im w' H ι (fun b=>Im b\/(w.heap.size<=b/\b<w'.heap.size)):={
    comp:=fun β b h=>⟨b,h,uU b _⟩
    im:=fun _ h=> .inl h
    ta:=fun b h=>h.elim .inl fun h=> .inr (.inl h.1)
    nT:=fun β x z h hu=> .inr ⟨β,x,h,hu⟩
    kD:=fun b h _=>hb.block b h
    size:=hb.size
    io:=⟨hb.os,hb.output⟩ }
  have xJ: ∀β b z,H.get β=some b->b.yc (ι β) z->z<w.heap.size:=fun β b z hB hu=>(hi.rB β b hB).cn hu
  refine⟨⟨fun β b hB=>?_,hi.inj,fun b h=>?_,fun β b z hB hu h=>?_,xg.go hi.Na hi.VP fun b hb=>he.bh hi b hb,fun b hb=> .inl (hi.VP b hb)⟩,he⟩
  · exact(hi.rB β b hB).mono hi he fun hu=>⟨rfl,fun x hx=>hb.block _ (xJ β b x hB hx)⟩
  · rcases h with h|h
    · exact U! (hi.im b h) hb.size
    · exact h.2
  · rcases h with h|h
    · exact hi.Vt β b z hB hu h
    · have:=xJ β b z hB hu
      omega
theorem ML[xg]{P:Program}{fs fk:FuncId}{kt:TypeId}(hkt:P.underlying kt=some (.int .i64))(hen:enters P fs)
  (dw: ∀(l b nn:Nat)(D0:DataW Unit)(w:World),l<w.heap.size->w.cell? ⟨l,0,none⟩=some (.map (some b))->w.ownsMap P kt (fun _=>some (.nil,[])) b nn D0->Maps.size D0<=maxLen->Maps.size D0*8<=140737488355328->
   Calls P fs #[.func (.func fk) #[] #[.pointer (some ⟨l,0,none⟩)]] w fun e w' => ∃(v:Value)(ss:List Int),e= .returned v/\ss.Perm (intKeys D0)/\w'.ownsRow w.heap.size kt 1 v ss.length ((ss.mergeSort (fun x y=>decide (x<=y))).map encZ)/\(v= .slice none 0 0↔ss=[])/\Below w.heap.size w w')
  {args:List AV} {H:qr} {r:AV} {H' :qr} (h:V6 fk args H=some (r,H')):enters P fs/\ln P fs args H r H' :=by
 refine⟨hen, ?_⟩;unfold V6 at h;split at h
 ·rename_i g es zR;split at h
  ·rename_i ks Ng;split at h
   ·rename_i hc;obtain⟨rfl,sE⟩:=hc;cases h;intro w ι Im vs hi hl ha;obtain⟨v0,rfl⟩: ∃v0,vs=[v0]:=by match vs,hl with|[v0],_=>exact⟨v0,rfl⟩
    have h0:=ha 0 _ _ rfl rfl;cases h0 with
     |Z5 _ _ _ va vb VT SX hA hB=>(have:va=[]:=by cases va with|nil=>rfl|cons=>simp at VT);(subst this;obtain⟨p0,rfl⟩: ∃p0,vb=[p0]:=by match vb,SX with|[p0],_=>exact⟨p0,rfl⟩);have hp:=hB 0 _ _ rfl rfl;cases hp with
     |ptr _ _ c hbox=>have Xv:=hi.rB 0 (.box [.map 1]) rfl;obtain⟨cv,elem,fz,q1,q2,q3,q4,q5⟩:=Xv;obtain⟨m0,hm0⟩: ∃m0,cv[0]? =some m0:=⟨cv[0]'(by rw[<- q3];simp),z?⟩;have hmr:=q5 0 _ _ rfl hm0;cases hmr with
     |map _ _ _ _=>
      (obtain⟨xi,g1,g2,g3⟩:=hi.rB 1 (.map es zR) rfl;obtain⟨k1,k2⟩:=YJ Ng;simp only[C9,zO,decide_eq_true_eq,List.all_eq_true]at sE;obtain⟨⟨⟨⟨f1,f2⟩,f3⟩,f4⟩,f5⟩:=sE;have hbw: ∀β b,qr.get [(0,qE.box [AV.map 1]),(1,qE.map es zR)] β=some b->b.used=true->(ι β).b<w.heap.size:=fun β b hB hu=>(hi.rB β b hB).lt hu;have Wi: ∀(i:Nat) e,xi[i]? =some e-> ∃n,ks[i]? =some n/\e.key=encZ n/\e.born=(si es)[i]?.getD 0/\i<es.length:=by intro i e he;have xJ:i<es.length:=g2 ▸ (qF he).1;obtain⟨pk,pv,pb,dm⟩: ∃a b c,es[i]? =some (a,b,c):=⟨es[i].1,es[i].2.1,es[i].2.2,by simp[xJ]⟩;obtain⟨n,hn,rfl⟩:=k2 i _ _ _ dm;obtain⟨r1,r2,r3⟩:=g3 i _ _ _ e dm he;refine⟨n,hn, ?_,by rw[oL];simp[dm,r3],xJ⟩;have:=r1;generalize e.key=kk at this;cases this;rfl);(have hkeys:xi.map (·.key)=ks.map encZ:=by apply List.ext_getElem?;intro i;cases he:xi[i]? with|none=>(have h1:xi.length<=i:=by simpa using he);have h2:ks.length<=i:=o?;simp[he,h2]|some e=>obtain⟨n,hn,hk,_⟩:=Wi i e he;simp[he,hn,hk]);(have hborn:xi.map (·.born)=si es:=by (apply List.ext_getElem?;intro i;have hsl:(si es).length=es.length:=by rw[oL];simp);cases he:xi[i]? with|none=>(have h1:xi.length<=i:=by simpa using he);have h2:(si es).length<=i:=o?;simp[he,h2]|some e=>obtain⟨n,_,_,hb,xJ⟩:=Wi i e he;have:i<(si es).length:=o?;simp[he,hb,this]);(have hrd: ∀(i:Nat) e,xi[i]? =some e-> ∃n,ks[i]? =some n/\WideElems.rd P kt (fun _=>some ((.nil:DataW Unit),[])) e=some (.int .i64 n,.nil):=by (intro i e he;obtain⟨n,hn,hk,_⟩:=Wi i e he;refine⟨n,hn, ?_⟩;obtain⟨b1,b2⟩:=f2 n (z6 hn);have hw:(Lit.int .i64 n).wf=true:=by simp[Lit.wf,IntKind.min,IntKind.max,IntKind.signed,IntKind.bits];omega);simp[WideElems.rd,hk,encZ,keyOf,hkt,mapKey,hw]);let R:Value->Option (DataW Unit×List MemPlace):=fun _=>some (.nil,[]);(have hgl:(xi.map (WideElems.rg P kt R)).map (fun p=>intOf p.1)=ks:=by apply List.ext_getElem?;intro i;cases he:xi[i]? with|none=>(have h1:xi.length<=i:=by simpa using he);have h2:ks.length<=i:=o?;simp[he,h2]|some e=>obtain⟨n,hn,hk⟩:=hrd i e he;simp[he,hn,WideElems.rg,R,hk,intOf]);let D0:DataW Unit:= .map ((xi.map (WideElems.rg P kt R)).foldr DataW.insert []);(have Ni:w.ownsMap P kt R (ι 1).b xi.length D0:=by refine⟨⟨xi⟩,zR,g1,⟨?_,⟨fun x hx=>?_, ?_, ?_⟩,fun x hx=>?_⟩,jx _,rfl⟩;show xi.length<=maxLen;simp only[maxLen];omega;apply f4;rw[<- hborn];exact List.mem_map_of_mem hx;show(xi.map (·.born)).Nodup;rw[hborn];exact f3;show(xi.map (·.key)).Nodup;rw[hkeys];exact List.pairwise_map.2 (f1.imp fun jz he=>jz (encZ_inj he));obtain⟨i,yw⟩:=kb hx;obtain⟨n,_,hr⟩:=hrd i x yw;exact⟨_,hr⟩);(have hperm:(intKeys D0).Perm ks:=by have:=(XW (xi.map (WideElems.rg P kt R))).map (fun p=>intOf p.1);rw[hgl]at this;exact this);(have mr:Maps.size D0=ks.length:=by have:=(XW (xi.map (WideElems.rg P kt R))).length_eq;show((xi.map (WideElems.rg P kt R)).foldr DataW.insert []).length=_;rw[this];simp;omega);(have Wg:w.cell? ⟨(ι 0).b,0,none⟩=some (.map (some (ι 1).b)):=by simp[World.cell?,q1,hm0]);refine(dw (ι 0).b (ι 1).b xi.length D0 w (hbw 0 _ rfl rfl) Wg Ni (by rw[mr];simp only[maxLen];omega) (by rw[mr];omega)).mono ?_;rintro e w' ⟨v,ss,rfl,hS,eB,K0,hb⟩;have LG:=hS.trans hperm;rw[MJ ks ss LG]at eB;obtain⟨w1,w2⟩:=eB;have hlen:(pO ks).length=ss.length:=((Zu ks).trans LG.symm).length_eq;rcases w2 with ⟨rfl,hz⟩|⟨g0,cap,cur,rfl,c1,c2,c3,c4,c5,c6⟩;have e2:pO ks=[]:=List.length_eq_zero_iff.1 o?;rw[e2];obtain⟨hI,hE⟩:=zc.put (Xx:=NV rfl) hi (w' :=w') 2 (.row true 0 []) ⟨0,0,[]⟩ (fun x hx=>by cases hx) ⟨hb.size,hb.os,hb.output⟩ (fun b h _=>hb.block b h) (fun h=>by cases h) (fun _=>rfl);refine⟨_,_,_,rfl,hI,hE, ?_⟩;exact .row 2 0 0 0 _ (.row true 0 []) rfl rfl (fun _=>⟨_,_,_,rfl⟩) (fun _ _ _ e=>by cases e;exact jx _) (fun _ _ _ e _=>by cases e;exact⟨jx _,rfl⟩);(have jz:ss≠[]:=fun e=>by have:=K0.2 e;cases this);(have e1:(pO ks).isEmpty=false:=by cases hs:pO ks with|nil=>rw[hs]at hlen;exact absurd (List.length_eq_zero_iff.1 hlen.symm) jz|cons=>rfl);(have e2:zV 1 (pO ks)=1:=by cases hs:pO ks with|nil=>rw[hs]at hlen;exact absurd (List.length_eq_zero_iff.1 hlen.symm) jz|cons=>rfl);rw[e1,e2];have Wh: ∀(i:Nat)(n:Int),(pO ks)[i]? =some n->cur[i]? =some (encZ n):=by (intro i n hn;have h1:i<(pO ks).length:=(qF hn).1;have h2:(cur.toList.take (ss.length*1))[i]? =some (encZ n):=by rw[c6];simp[hn]);rw[List.getElem?_take_of_lt o?]at h2;rw[<- Array.getElem?_toList];exact h2
      have Vs:((pO ks).map fun k=>[PV.int .i64 k]).length=(pO ks).length:=List.length_map _;obtain⟨hI,hE⟩:=zc.put (Xx:=NV rfl) hi (w' :=w') 2 (.row false 1 ((pO ks).map fun k=>[PV.int .i64 k])) ⟨g0,cap,[]⟩ (fun x hx=>by cases hx) ⟨hb.size,hb.os,hb.output⟩ (fun b h _=>hb.block b h) (fun _=> .inl c1) (fun _=>by
       refine⟨cur,kt,(0,0),by simpa using c2,kh _,by simpa using c5,o?,by rw[Vs];simpa using(by omega:(pO ks).length<=cap),fun e he=>?_,fun i e j p h1 h2=>?_,fun i e j p h1 h2=>?_⟩
       ·obtain⟨k,_,rfl⟩:=List.mem_map.1 he
        rfl
       ·simp only[List.getElem?_map,yR]at h1
        obtain⟨n,hn,rfl⟩:=h1
        cases j with
        |zero=>simp at h2;subst h2;rfl
        |succ j=>simp at h2
       simp only[List.getElem?_map,yR]at h1
       obtain⟨n,hn,rfl⟩:=h1
       cases j with
       |zero=>
        simp at h2
        subst h2
        exact⟨encZ n,by simpa using Wh i n hn,.int .i64 n⟩
       |succ j=>simp at h2)
      refine⟨_,_,_,rfl,hI,hE, ?_⟩;refine .row 2 _ 0 _ _ (.row false 1 ((pO ks).map fun k=>[PV.int .i64 k])) rfl rfl (fun _=>⟨_,_,_,rfl⟩) (fun _ _ _ e=>by cases e;rw[Vs];exact jx _) (fun _ _ _ e _=>?_);cases e;refine⟨by rw[Vs];omega, ?_⟩;simp only[ko,if_false];exact⟨⟨g0,0,none⟩,by rw[hlen];simp,rfl,z?,fun _=>z?⟩
   cases h
  cases h
 cases h
end Go.Gm
namespace Go.Gm
open Go Go.RowKit Go.Sort
end Go.Gm
namespace Go.Gm
open Go
def Ks(t:TypeId)(args:List AV)(H:qr):Option (AV×qr):=
 match args with
 |[.ptr β 0]=>match H.get β with
  |_=>none
 |_=>none
theorem S1[xg]{P:Program}{f:FuncId}{t:TypeId}(hen:enters P f)
  (C3: ∀(b:Nat)(w:World),w.cell? ⟨b,0,none⟩=some (.pointer (some ⟨b,0,none⟩))->Calls P f #[.pointer (some ⟨b,0,none⟩)] w fun e w' =>e= .returned (.tuple #[])/\w' =w)
  (oB: ∀(b:Nat)(w:World),w.cell? ⟨b,0,none⟩=some (.pointer none)->w.shape? b=some (t,2)->w.frozen? ⟨b,0,none⟩=false->
   Calls P f #[.pointer (some ⟨b,0,none⟩)] w fun e w' =>e= .returned (.tuple #[])/\w' =w.setCell ⟨b,0,none⟩ (.pointer (some ⟨b,0,none⟩)))
  {args:List AV} {H:qr} {r:AV} {H' :qr} (h:Ks t args H=some (r,H')):enters P f/\ln P f args H r H' :=by refine⟨hen, ?_⟩;unfold Ks at h;split at h;rotate_left;cases h;rename_i β;split at h;cases h
end Go.Gm
