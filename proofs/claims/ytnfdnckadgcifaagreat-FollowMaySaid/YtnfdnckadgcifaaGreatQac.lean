/-
  The machine, part c.
-/
import Derived.Test.YtnfdnckadgcifaaGreatQab
import Derived.Below
import Derived.Deep.Draws
import Derived.Laws.AppendOwn
import Derived.Lib.ItoaNum
import Derived.Lib.LaidTab
import Derived.Lib.SlKeysI
import Derived.LoopN
import Derived.Maps.Own
import Derived.OpenShut
import Derived.Orders
import Derived.ProofKit
import Derived.Sort.Grow
open Array renaming getElem?_toList->H?,getElem?_eq_some_iff->M!,replicate->m_,getD->I_
open Bool renaming or_eq_true->j!,not_eq_true'->O!,false_or->q14
open Go.Gm.AV renaming refs->E?
open Go.Gm.Act renaming put_defers->K',X5->q1k
open Go.Gm.py renaming off->q1c
open Go.Gm.qJ renaming refs->q0l
open Go.Gm.qp renaming zm->c!,get->L!,put->k_,upto->A',below->q1b
open Go.Gm.vj renaming refl->G!
open Go.Gm.yu renaming get->B!
open Go.Sem renaming run_pure->W?
open Int renaming le_trans->q0d
open List renaming length_cons->b?,mem_append->p?,getElem?_append_left->t?,map_cons->d?,getElem?_cons_zero->a?,getElem?_cons_succ->i?,getElem?_append_right->J?,getElem?_map->K?,mem_cons->U?,mem_map->G?,nodup_append->D?,range->F?,pairwise_cons->w!,all_eq_true->V!,filter_cons->F!,getElem?_eq_none->o_,append_nil->F_,mem_cons_of_mem->C',range_eq_range'->F',range'_succ->q0m,flatMap_nil->q0n,nodup_range->q0o,mapM_cons->q0t,drop_drop->q0z,range'->q1f
open Nat renaming strongRecOn->r?,zero_add->O?,le_trans->p!,add_zero->d!,mul_comm->Y!,lt_of_lt_of_le->N!,zero_le->E!,lt_trichotomy->b_,lt_succ_of_lt->M_,lt_succ_self->O_,exists_eq_add_of_le->Y',testBit_or->q13
open Ne renaming symm->c_
open Option renaming getD_some->e!,bind_eq_some_iff->J!
set_option linter.unusedSimpArgs false
set_option linter.unusedVariables false
set_option linter.unusedSectionVars false
namespace Go.Gm
open Go
section
variable [xn] {P:Program} {w:World} {H:qp} {ι:yv} {Im:Nat->Prop}
theorem Wf{ops:Array Oper}{a:Act}{E:yu}(hE: ∀t,RA w H ι Im (E.get t) (a.tmps.getD t undef)){o:Oper}{b:Bool}(h:yF ops.toList o E=some b):
  Region.wanted o (yielded ops a.tmps)=b:=by
 unfold yF at h;unfold Region.wanted;split at h;rename_i hg;rw[hg];cases h;rfl;rename_i j want hg;rw[hg];simp only;split at h;(rename_i oj hoj;have hoj' :ops[j]? =some oj:=by rw[<- H?];exact hoj);split at h;(rename_i d hd;have hyd:yielded ops a.tmps j=match a.tmps[d]? with|some (.bool b)=>some b|_=>none:=by simp only[yielded,hoj',qV,hd];rfl);(rw[hyd];have hr:=hE d;have hgd:a.tmps.getD d undef=(a.tmps[d]?).getD undef:=by simp[I_,getElem?_def];split<;>simp[*]);rw[hgd]at hr;split at h;(rename_i b0 Jm;cases h;rw[Jm]at hr;have hp:=hr.gO;cases ht:a.tmps[d]? with|none=>rw[ht]at hp;cases hp|some v=>rw[ht]at hp;simp only[e!]at hp;cases hp;simp only;cases b0<;>cases want<;>rfl);(rename_i Jm;cases h;rw[Jm]at hr;cases ht:a.tmps[d]? with|none=>rfl|some v=>rw[ht]at hr;simp only[e!]at hr;cases hr with|xW _ vs=>rfl);cases h;(rename_i hd;cases h;have:yielded ops a.tmps j=none:=by simp[yielded,hoj',hd]);rw[this];rfl;rename_i hoj;cases h;have hoj' :ops[j]? =none:=by rw[<- H?];exact hoj
 have:yielded ops a.tmps j=none:=by simp[yielded,hoj']
 rw[this];rfl
theorem skip_inv{a:Act}{s:St}{nt:Nat}(h:Inv w a s ι Im nt)(d:Option Tmp)(hd: ∀t,d=some t->t<nt):
  Inv w (a.put d undef) { s with env:=fp d (.xW []) s.env } ι Im nt where
 heap:=h.heap
 env:=Kf h.env h.size hd NY
 nx:=h.nx
 size:=by rw[q1k];exact h.size
 defers:=by rw[K'];exact h.defers
theorem UP{G:GP}{O:xt}(hG:yE P G)(hO:SoundCall P O){nt:Nat}(ops:Array Oper)(hd:Ys nt ops.toList)(Q:Exit->Act->World->Prop):
  ∀(rest:List Oper)(k:Nat),ops.toList.drop k=rest-> ∀{w:World}{ι:yv}{Im:Nat->Prop}{a:Act}{s s' :St},Inv w a s ι Im nt->Xy G O ops.toList rest s=some s' ->
   (∀ a' w',aD w s.heap ι Im nt s' a' w' ->Q .normal a' w')->wpOps P ops Q (q1f k rest.length) a w
 |[],k,_,w,ι,Im,a,s,s',h,hr,hq=>by cases hr;exact hq a w ⟨ι,Im,h,G! _ _ _ _⟩
 |o::rest,k,pC,w,ι,Im,a,s,s',h,hr,hq=>by (have hk:ops.toList[k]? =some o:=by have:=congrArg (fun l=>l[0]?) pC;simpa using this);(have Zs:ops[k]? =some o:=by rw[<- H?];exact hk);(have OX:ops.toList.drop (k+1)=rest:=by have:=congrArg (fun l=>l.drop 1) pC;simpa[q0z]using this);have hdo: ∀t,o.dst=some t->t<nt:=hd o (zc hk);simp only[b?,q0m,wpOps,Zs];simp only[Xy]at hr;split at hr;{rename_i hg;rw[Wf h.env hg,if_pos rfl];obtain⟨iX,h1,e1⟩:=tH (NF G o.op s.env) h;split at hr;rotate_left;cases hr;rename_i s1 mF;refine .inl (stepO_ok hG hO h1 o hdo mF _ _ fun a' w' az=>?_);obtain⟨ι2,Gs,h2,e2⟩:=az;exact UP hG hO ops hd Q rest (k+1) OX h2 hr fun a'' w'' h3=>hq a'' w'' (h3.from (e1.trans e2))};rename_i hg;rw[Wf h.env hg,if_neg z?];exact UP hG hO ops hd Q rest (k+1) OX (skip_inv h o.dst hdo) hr fun a'' w'' h3=>hq a'' w'' h3;cases hr
theorem Au{G:GP}{O:xt}(hG:yE P G)(hO:SoundCall P O){nt:Nat}(id:Nat)(ops:Array Oper)(hd:Ys nt ops.toList)
  {a:Act} {s s' :St} (h:Inv w a s ι Im nt) (hr:Xy G O ops.toList ops.toList s=some s') (Q:Exit->Act->World->Prop)
  (hq: ∀a' w',aD w s.heap ι Im nt s' a' w' ->Q .normal a' w'):(Code.region id ops false).wp P Q a w:=by refine wp_region ?_;have:=UP hG hO ops hd Q ops.toList 0 z? h hr hq;rw[F'];simpa using this
end
def xR(L:List Nat)(H H' :qp):Prop:= ∀γ∈L,H'.get γ=H.get γ
section
variable {H H' :qp}
theorem xR.app{A B:List Nat}(h:xR (A++B) H H'):xR A H H' /\xR B H H' :=
 ⟨fun γ hγ=>h γ (by simp[hγ]),fun γ hγ=>h γ (by simp[hγ])⟩
theorem Bi{ti:TI}{a:AV}(h:xR a.refs H H'):QB ti a H' =QB ti a H:=by cases a<;>simp only[QB];rename_i p;cases p<;>rfl;rename_i β o;rw[h β (by simp[E?])];rename_i β v i o;rw[h β (by simp[E?])]
theorem UN{ti:TI}{a v:AV}(h:xR a.refs H H'):o6 ti a v H' =o6 ti a v H:=by cases a<;>simp only[o6];rename_i β o;rw[h β (by simp[E?])];rename_i β v i o;rw[h β (by simp[E?])]
theorem eF{v:AV}(h:xR v.refs H H'):yN v H' =yN v H:=by cases v with|pv p=>(cases p<;>first|rfl|(rename_i b _ _;cases b<;>rfl))|row β xm off n=>simp only[yN];rw[h β (by simp[E?])]|_=>rfl
theorem G9{v:AV}(h:xR v.refs H H'):lS v H' =lS v H:=by cases v with|row β xm off n=>simp only[lS];rw[h β (by simp[E?])]|_=>rfl
theorem Kz{te:TI}{s x:AV}{nx:Nat}(h1:xR s.refs H H')(h2:xR x.refs H H'):mB te s x H' nx=mB te s x H nx:=rfl
theorem VB{te:TI}{s x:AV}{nx:Nat}(h1:xR s.refs H H')(h2:xR x.refs H H'):hZ te s x H' nx=hZ te s x H nx:=by unfold hZ;rw[eF h2,Kz h1 h2];cases s with|row β xm off n=>simp only;rw[h1 β (by simp[E?])]|pv p=>(cases p<;>first|rfl|(rename_i b _ _;cases b<;>rfl))|_=>rfl
theorem Bc{te:TI}{s x:AV}{nx:Nat}(h1:xR s.refs H H')(h2:xR x.refs H H'):Zz te s x H' nx=Zz te s x H nx:=by unfold Zz;rw[eF h2];cases s with|row β xm off n=>simp only;rw[h1 β (by simp[E?])]|pv p=>(cases p<;>first|rfl|(rename_i b _ _;cases b<;>rfl))|_=>rfl
theorem Xq{td:TD}{iU:TypeId->Option TI}{x i:AV}(h:xR x.refs H H'):tC td iU x i H' =tC td iU x i H:=by unfold tC;cases x with|row β xm off n=>simp only;rw[h β (by simp[E?])]|pv p=>(cases p<;>first|rfl|(rename_i b _ _;cases b<;>rfl))|_=>rfl
theorem UM{td:TD}{iU:TypeId->Option TI}{ρ:Operand->AV}{x:AV}{lo hi mx:Option Operand}(h:xR x.refs H H'):eh td iU ρ x lo hi mx H' =eh td iU ρ x lo hi mx H:=by unfold eh;cases x with|row β xm off n=>simp only;rw[h β (by simp[E?])]|pv p=>(cases p<;>first|rfl|(rename_i b _ _;cases b<;>rfl))|_=>rfl
theorem KK{td:TD}{v:AV}(h:xR v.refs H H'):dd td v H' =dd td v H:=by unfold dd;cases v with|row β xm off n=>simp only;rw[h β (by simp[E?])]|pv p=>(cases p<;>first|rfl|(rename_i b _ _;cases b<;>rfl))|_=>rfl
theorem Dj{iU:TypeId->Option TI}{ti:TI}{x y:AV}(h1:xR x.refs H H')(h2:xR y.refs H H'):aEq iU ti x y H' =aEq iU ti x y H:=by unfold aEq;split;rfl;rfl;rw[KK h1,KK h2]
theorem Pr{iU:TypeId->Option TI}{op:BinOp}{ti:TI}{x y:AV}(h1:xR x.refs H H')(h2:xR y.refs H H'):Pq iU op ti x y H' =Pq iU op ti x y H:=by have e:aEq iU ti x y H' =aEq iU ti x y H:=Dj h1 h2;unfold Pq;split;rfl;rfl;split;rfl;rfl;rw[e]
theorem KG{src dst:TD}{dte:TypeId->Option TI}{x:AV}{nx:Nat}(h:xR x.refs H H'):rD src dst dte x H' nx=rD src dst dte x H nx:=by have e:yN x H' =yN x H:=eF h;unfold rD;split<;>first|rfl|(rw [e])
theorem JK{G:GP}{t:TypeId}{x:AV}{nx:Nat}(h:xR x.refs H H'):tU G t x H' nx=tU G t x H nx:=rfl
theorem KJ{tk te:TI}{m k:AV}{ok:Bool}(h:xR m.refs H H'):lj tk te m k ok H' =lj tk te m k ok H:=rfl
theorem KL{tk:TI}{m k v:AV}(h:xR m.refs H H'):dV tk m k v H' =dV tk m k v H:=rfl
theorem Bf{m:AV}{k:PV}(h:xR m.refs H H'):KI m k H' =KI m k H:=by cases m with|map β=>simp only[KI];rw[h β (by simp[E?])]|pv p=>(cases p<;>first|rfl|(rename_i b _ _;cases b<;>rfl))|_=>rfl
theorem VI{tk te:TI}{m k:AV}{ok:Bool}(h:xR m.refs H H'):aE tk te m k ok H' =aE tk te m k ok H:=by cases k with|pv p=>simp only[aE,Bf h]|_=>rfl
theorem QC{tk:TI}{m k:AV}{v:PV}(h:xR m.refs H H'):rE tk m k v H' =rE tk m k v H:=by cases m<;>first|rfl|(cases k<;>first|rfl|(simp only[rE];rw[h _ (by simp[E?])]))
theorem UK{tk te:TI}{m k:AV}(h:xR m.refs H H'):lh tk te m k H' =lh tk te m k H:=rfl
theorem ZA{m st:AV}{v:PV}(h:xR m.refs H H'):bP m st v H' =bP m st v H:=rfl
theorem VE{tk:TI}{m k:AV}(h:xR m.refs H H'):cl tk m k H' =cl tk m k H:=by cases m<;>first|rfl|(cases k<;>first|rfl|(simp only[cl];rw[h _ (by simp[E?])]))|(rename_i p;cases p<;>first|rfl|(cases k<;>rfl))
theorem Pw{x:AV}(h:xR x.refs H H'):Bh x H' =Bh x H:=by cases x with|row β xm off n=>simp only[Bh];rw[h β (by simp[E?])]|map β=>simp only[Bh];rw[h β (by simp[E?])]|pv p=>(cases p<;>first|rfl|(rename_i b _ _;cases b<;>rfl))|_=>rfl
theorem KB{e:TypeId}{te:TI}{s x:AV}{nx:Nat}(h1:xR s.refs H H')(h2:xR x.refs H H'):bA e te s x H' nx=bA e te s x H nx:=rfl
theorem KA{te:TI}{s x:AV}{nx:Nat}(h1:xR s.refs H H')(h2:xR x.refs H H'):nP te s x H' nx=nP te s x H nx:=by unfold nP;rw[G9 h2];cases s with|row β xm off n=>simp only;rw[h1 β (by simp[E?])]|_=>rfl
theorem Xs{x:AV}{nx:Nat}(h:xR x.refs H H'):tD x H' nx=tD x H nx:=rfl
theorem Qp{el:TypeId}{p x:AV}{nx:Nat}(h:xR p.refs H H'):gH el p x H' nx=gH el p x H nx:=rfl
theorem KE{G:GP}{b:Builtin}{cu:List TypeId}{args:List AV}{nx:Nat}(h:xR (AV.refs.pI args) H H'):rC G b cu args H' nx=rC G b cu args H nx:=by unfold rC;split;have h1:=(xR.app h).1;simp only[Pw h1];have h1:=(xR.app h).1;simp only[Xs h1];have h1:=(xR.app h).1;simp only[Qp h1];rfl;rfl;rename_i s x;have h1:xR s.refs H H' :=fun γ hγ=>h γ (by simp[AV.refs.pI,hγ]);have h2:xR x.refs H H' :=fun γ hγ=>h γ (by simp[AV.refs.pI,hγ]);simp only[VB h1 h2,KB h1 h2,KA h1 h2];rename_i s x;have h1:xR s.refs H H' :=fun γ hγ=>h γ (by simp[AV.refs.pI,hγ]);have h2:xR x.refs H H' :=fun γ hγ=>h γ (by simp[AV.refs.pI,hγ]);simp only[Bc h1 h2];rename_i m k;have h1:xR m.refs H H' :=fun γ hγ=>h γ (by simp[AV.refs.pI,hγ]);simp only[VE h1];rfl
theorem lL: ∀(n:Nat)(r d:List Nat),xR (nT H n r d) H H' ->nT H' n r d=nT H n r d
 |0,_,_,_=>rfl
 |n+1,[],d,_=>rfl
 |n+1,β::r,d,h=>by simp only[nT]at h |-;by_cases c:WC d β=true;rw[if_pos c]at h |-;rw[if_pos c];exact lL n r d h;(rw[if_neg c]at h |-;rw[if_neg c];have dm:β∈nT H n (r++(so H β).refs) (d++[β]):=by (have key: ∀(n:Nat)(r d:List Nat)(x:Nat),x∈d->x∈nT H n r d:=by intro n;induction n with|zero=>intro r d x hx;exact hx|succ n ih=>intro r d x hx;cases r with|nil=>exact hx|cons β r=>simp only[nT];split;exact ih _ _ _ hx;exact ih _ _ _ (by simp[hx]));exact key _ _ _ _ z?);(have hb:so H' β=so H β:=by simp only[so,h β dm]);rw[hb];exact lL n _ _ h
theorem lr{L:List Nat}: ∀(l:List Nat),xR l H H' ->pT H' L l=pT H L l
 |[],_=>rfl
 |β::r,h=>by simp only[pT];rw[h β z?,lr r fun γ hγ=>h γ (by simp[hγ])]
theorem WU{g:Nat->Nat}: ∀(i:Nat)(l:List Nat),xR l H H' ->pick H' g i l=pick H g i l
 |_,[],_=>rfl
 |i,β::r,h=>by (simp only[pick];rw[WU (i+1) r fun γ hγ=>h γ (by simp[hγ])];have:so H' β=so H β:=by simp only[so,h β z?]);rw[this]
theorem Yf{roots:List Nat}(h:xR (nT H 400 roots []) H H'):sg H' [] roots=sg H [] roots:=by cases roots with|nil=>rfl|cons β r=>(have h' :xR (nT H 400 ((β::r)++([]:List Nat).flatMap fun β=>(so H β).refs) []) H H' :=by simpa using h);have e:=lL 400 _ _ h';simp only[q0n]at e h';simp only[sg,q0n,e,lr _ h',WU 0 _ h']
theorem J9{O:xt}{f:FuncId}{args:List AV}{nx:Nat}(h:xR (nT H 400 (AV.refs.pI args) []) H H'):eM O f args H' nx=eM O f args H nx:=by unfold eM;rw[Yf h]
theorem NT{ps:List (Nat×Operand)}{E E' :yu}(h: ∀x∈ps.map (·.2),ev E' x=ev E x): ∀x∈ps,ev E' x.2=ev E x.2:=fun x hx=>h x.2 (G?.2 ⟨x,hx,rfl⟩)
theorem BS{zk:Nat->Option (Nat×Nat)}{E E' :yu}: ∀(l:List (Nat×Operand))(c:List AV),(∀ x∈l,ev E' x.2=ev E x.2)->lA zk (ev E') l c=lA zk (ev E) l c
 |[],_,_=>rfl
 |(i,x)::r,c,h=>by have hx:ev E' x=ev E x:=h (i,x) z?;simp only[lA,hx];split;split;exact BS r _ fun y hy=>h y (by simp[hy]);rfl;rfl
theorem W6{size:Nat}{E E' :yu}: ∀(l:List (Nat×Operand))(c:List (List PV)),(∀ x∈l,ev E' x.2=ev E x.2)->rH size (ev E') l c=rH size (ev E) l c
 |[],_,_=>rfl
 |(i,x)::r,c,h=>by have hx:ev E' x=ev E x:=h (i,x) z?;simp only[rH,hx];split;split;exact W6 r _ fun y hy=>h y (by simp[hy]);rfl;rfl
theorem Je{size:Nat}{E E' :yu}: ∀(l:List (Nat×Operand))(c:List (List AV)),(∀ x∈l,ev E' x.2=ev E x.2)->pV size (ev E') l c=pV size (ev E) l c
 |[],_,_=>rfl
 |(i,x)::r,c,h=>by have hx:ev E' x=ev E x:=h (i,x) z?;simp only[pV,hx];split;exact Je r _ fun y hy=>h y (by simp[hy]);rfl
theorem Tn{E E' :yu}(l:List Operand)(h: ∀x∈l,ev E' x=ev E x):l.map (ev E')=l.map (ev E):=List.map_congr_left h
theorem Dp{G:GP}{O:xt}{o:Op}{E E' :yu}{nx:Nat}(hE: ∀x∈o.operands,ev E' x=ev E x)(hH:xR (tw o E H) H H'):mz G O o E' H' nx=mz G O o E H nx:=by cases o with|move x=>simp only[mz,hE x (by simp[Op.operands])]|assign x=>simp only[mz,hE x (by simp[Op.operands])]|pick c a b=>simp only[mz,hE c (by simp[Op.operands]),hE a (by simp[Op.operands]),hE b (by simp[Op.operands])]|alloc t=>rfl|box t x=>simp only[mz,hE x (by simp[Op.operands])]|build t ps=>have h:=NT (ps:=ps.toList) (E:=E) (E' :=E') (fun x hx=>hE x (by simpa[Op.operands]using hx));simp only[mz,KC,BS _ _ h]|buildSlice t n ps=>have h:=NT (ps:=ps.toList) (E:=E) (E' :=E') (fun x hx=>hE x (by simpa[Op.operands]using hx));simp only[mz,W6 _ _ h,Je _ _ h]|load t a=>simp only[mz,hE a (by simp[Op.operands]),Bi hH]|store t a x=>simp only[mz,hE a (by simp[Op.operands]),hE x (by simp[Op.operands]),UN hH]|nilCheck x=>simp only[mz,hE x (by simp[Op.operands])]|binOp op t x y z=>obtain⟨h1,h2⟩:=xR.app hH;simp only[mz,hE x (by simp[Op.operands]),hE y (by simp[Op.operands]),Pr h1 h2]|unOp op t x=>simp only[mz,hE x (by simp[Op.operands])]|convert s d x=>simp only[mz,hE x (by simp[Op.operands]),KG hH,JK hH]|makeFunc fn a b=>(cases fn with|func f=>(have h1:=Tn a.toList (E:=E) (E' :=E') (fun x hx=>hE x (by simp[Op.operands]at hx |-; exact .inl hx));have h2:=Tn b.toList (E:=E) (E' :=E') (fun x hx=>hE x (by simp[Op.operands]at hx |-; exact .inr hx));simp only[mz];generalize a.toList=la at h1;generalize b.toList=lb at h2;cases la<;>cases lb<;>first|rfl|(simp only[h1,h2]))|_=>rfl)|makeMap t r=>cases r<;>rfl|makeSlice t l c=>simp only[mz,hE l (by simp[Op.operands]),hE c (by simp[Op.operands])]|slice t x lo hi mx=>(have hx:=hE x (by simp[Op.operands]);have h1: ∀d,kz (ev E') d lo=kz (ev E) d lo:=fun d=>by cases lo with|none=>rfl|some y=>simp only[kz,hE y (by simp[Op.operands])]);(have h2: ∀d,kz (ev E') d hi=kz (ev E) d hi:=fun d=>by cases hi with|none=>rfl|some y=>simp only[kz,hE y (by simp[Op.operands])]);(have h3: ∀d,kz (ev E') d mx=kz (ev E) d mx:=fun d=>by cases mx with|none=>rfl|some y=>simp only[kz,hE y (by simp[Op.operands])]);(have key: ∀td iU H,eh td iU (ev E') (ev E x) lo hi mx H=eh td iU (ev E) (ev E x) lo hi mx H:=by intro td iU H;unfold eh;simp only[h1,h2,h3]);simp only[mz,hx,key,UM hH]|fieldAddr t x f=>simp only[mz,hE x (by simp[Op.operands])]|field t x f=>simp only[mz,hE x (by simp[Op.operands])]|indexAddr t x i=>simp only[mz,hE x (by simp[Op.operands]),hE i (by simp[Op.operands]),Xq hH]|index t x i=>simp only[mz,hE x (by simp[Op.operands]),hE i (by simp[Op.operands])]|lookup t m k ok=>simp only[mz,hE m (by simp[Op.operands]),hE k (by simp[Op.operands]),VI hH,KJ hH]|mapUpdate t m k x=>simp only[mz,lk,hE m (by simp[Op.operands]),hE k (by simp[Op.operands]),hE x (by simp[Op.operands]),QC hH,KL hH]|insert t m k x=>simp only[mz,hE m (by simp[Op.operands]),hE k (by simp[Op.operands]),hE x (by simp[Op.operands]),QC hH]|mapEntry t m k=>simp only[mz,hE m (by simp[Op.operands]),hE k (by simp[Op.operands]),UK hH]|entryStore t m st x=>simp only[mz,hE m (by simp[Op.operands]),hE st (by simp[Op.operands]),hE x (by simp[Op.operands]),ZA hH]|extract t i=>simp only[mz,hE t (by simp[Op.operands])]|call c=>(obtain⟨callee,args,cu⟩:=c;have ha:=Tn args.toList (E:=E) (E' :=E') (fun x hx=>hE x (by simp[Op.operands,Call.operands];right;simpa using hx));cases callee with|builtin b=>simp only[mz,ha,KE hH]|value f=>have hf:=hE f (by simp[Op.operands,Call.operands]);simp only[mz,hf,ha];simp only[tw]at hH;split;rename_i g hg;rw[hg]at hH;exact J9 hH;rename_i g a b hg;rw[hg]at hH;exact J9 hH;rfl|_=>rfl)|_=>rfl
end
structure Rc where
 E:yu
 H:qp
 nx:Nat
 on:Bool
 v:AV
 ws:List (Nat×qJ)
 fj:Nat
 rd:List Nat
def Rc.keys(c:Rc):List Nat:=c.ws.map (·.1)
mutual
theorem PV.Qg: ∀{x y:PV},PV.kR x y=true->x=y:=by
 intro x y h;cases x<;>cases y<;>first|(simp [PV.kR]at h;done)|(simp only[PV.kR,zU,beq_iff_eq,decide_eq_true_eq]at h)
 all_goals first|rfl|(rw [h];done)|(rw [h.1,h.2];done)|(rw [PV.d8 h];done)|(rw [h.1.1,h.1.2,PV.ch h.2];done)
theorem PV.d8: ∀{x y:List PV},PV.ar x y=true->x=y:=by
 intro x y h;cases x<;>cases y<;>first|(simp [PV.ar]at h;done)|rfl|skip
 simp only[PV.ar,zU]at h;rw[PV.Qg h.1,PV.d8 h.2]
theorem PV.ch: ∀{x y:List (List PV)},PV.cf x y=true->x=y:=by
 intro x y h;cases x<;>cases y<;>first|(simp [PV.cf]at h;done)|rfl|skip
 simp only[PV.cf,zU]at h;rw[PV.d8 h.1,PV.ch h.2]
end
theorem AV.Qg{x y:AV}(h:AV.kR x y=true):x=y:=by
 cases x<;>cases y<;>first|(simp [AV.kR]at h;done)|rfl|(simp only[AV.kR,zU,decide_eq_true_eq]at h)
 all_goals first|(rw [PV.Qg h];done)|(obtain ⟨⟨⟨h1,h2⟩,h3⟩,h4⟩:=h;subst h1 h2 h3 h4;rfl)|(obtain ⟨h1,h2⟩:=h;subst h1 h2;rfl)|(subst h;rfl)
theorem AV.d8: ∀{x y:List AV},AV.ar x y=true->x=y
 |[],[],_=>rfl
 |[],_::_,h=>by simp[AV.ar]at h
 |_::_,[],h=>by simp[AV.ar]at h
 |_::_,_::_,h=>by simp only[AV.ar,zU]at h;rw[AV.Qg h.1,AV.d8 h.2]
theorem AV.ch: ∀{x y:List (List AV)},AV.cf x y=true->x=y
 |[],[],_=>rfl
 |[],_::_,h=>by simp[AV.cf]at h
 |_::_,[],h=>by simp[AV.cf]at h
 |_::_,_::_,h=>by simp only[AV.cf,zU]at h;rw[AV.d8 h.1,AV.ch h.2]
theorem qJ.Qg{x y:qJ}(h:qJ.kR x y=true):x=y:=by
 cases x<;>cases y<;>first|(simp [qJ.kR]at h;done)|rfl|(simp only[qJ.kR,zU,decide_eq_true_eq,beq_iff_eq]at h)
 all_goals first|(rw [AV.d8 h];done)|(rw [h.1,AV.d8 h.2];done)|(rw [h.1,AV.ch h.2];done)|(rw [h.1.1,h.1.2,PV.ch h.2];done)|(rw [h.1.1.1,h.1.1.2,h.1.2,PV.ch h.2];done)
theorem YN{H:qp}{β:Nat}{b:qJ}(h:Tg H β b=true):H.get β=some b:=by unfold Tg at h;split at h;rename_i c hc;rw[hc,qJ.Qg h];cases h
theorem Vm(rd:List Nat): ∀(ws:List (Nat×qJ))(H:qp)(x:Nat×qJ),x∈trim rd H ws->x∈ws
 |[],H,x,h=>by simp[trim]at h
 |(β,b)::r,H,x,h=>by rw[trim]at h;split at h;exact C' _ (Vm rd r H x h);rcases U?.1 h with rfl|h;exact List.mem_cons_self;exact C' _ (Vm rd r _ x h)
theorem Vk(rd:List Nat): ∀(ws:List (Nat×qJ))(H:qp)(γ:Nat),γ∈ws.map (·.1)->γ∈(trim rd H ws).map (·.1)\/ ∃b,H.get γ=some b
 |[],H,γ,h=>by simp at h
 |(β,b)::r,H,γ,h=>by rw[trim];simp only[d?,U?]at h;split;rename_i hc;simp only[zU]at hc;rcases h with rfl|h;exact .inr ⟨_,YN hc.2⟩;exact Vk rd r H γ h;rcases h with rfl|h;exact .inl z?;rcases Vk rd r (H.put β b) γ h with h|⟨c,h⟩;exact .inl (by simp[h]);rw[c!]at h;split at h;rename_i e;exact .inl (by simp[e]);exact .inr ⟨c,h⟩
theorem aT: ∀(ws:List (Nat×qJ))(H H' :qp)(γ:Nat),γ∈ws.map (·.1)->(za ws H).get γ=(za ws H').get γ
 |[],_,_,_,h=>by simp at h
 |(i,b)::r,H,H',γ,h=>by simp only[za];by_cases hr:γ∈r.map (·.1);exact aT r _ _ γ hr;(have hi:γ=i:=by simp only[d?,U?]at h;exact h.resolve_right hr);have jZ: ∀x∈r,x.1≠γ:=fun x hx e=>hr (by rw[<- e];exact G?.2 ⟨x,hx,rfl⟩);rw[k9 r _ γ jZ,k9 r _ γ jZ,c!,c!,if_pos hi,if_pos hi]
theorem Vl(rd:List Nat): ∀(ws:List (Nat×qJ))(H H' :qp),xR rd H H' -> ∀γ,(za (trim rd H ws) H').get γ=(za ws H').get γ
 |[],_,_,_,_=>rfl
 |(β,b)::r,H,H',h,γ=>by rw[trim];split;(rename_i hc;simp only[zU]at hc;have h1:=YN hc.2;have h2:H'.get β=some b:=by rw[h β ((lI rd β).1 hc.1),h1]);rw[Vl rd r H H' h γ];simp only[za];by_cases hr:γ∈r.map (·.1);exact aT r _ _ γ hr;have jZ: ∀x∈r,x.1≠γ:=fun x hx e=>hr (by rw[<- e];exact G?.2 ⟨x,hx,rfl⟩);rw[k9 r _ γ jZ,k9 r _ γ jZ,c!];split;rename_i e;rw[e,h2];rfl;simp only[za];refine Vl rd r (H.put β b) (H'.put β b) (fun x hx=>?_) γ;rw[c!,c!,h x hx]
theorem RM{tm:Bool}{rd:List Nat}{ws:List (Nat×qJ)}{H H' :qp}(h:xR rd H H')(γ:Nat):(za (eG tm rd H ws) H').get γ=(za ws H').get γ:=by cases tm;rfl;exact Vl rd ws H H' h γ
theorem RN{tm:Bool}{rd:List Nat}{ws:List (Nat×qJ)}{H:qp}{x:Nat×qJ}(h:x∈eG tm rd H ws):x∈ws:=by cases tm;exact h;exact Vm rd ws H x h
theorem RL{tm:Bool}{rd:List Nat}{ws:List (Nat×qJ)}{H:qp}{γ:Nat}(h:γ∈ws.map (·.1)):γ∈(eG tm rd H ws).map (·.1)\/ ∃b,H.get γ=some b:=by cases tm;exact .inl h;exact Vk rd ws H γ h
def nO(G:GP)(O:xt)(all:List Oper)(tm:Bool):List Oper->List Rc->St->St->Prop
 |[],[],s,s' =>s' =s
 |o::r,c::cs,s,s' =>c.E=s.env/\c.H=s.heap/\c.nx=s.nx/\yF all o s.env=some c.on/\
   (c.on=true->(∃ wf,mz G O o.op s.env s.heap s.nx=some (c.v,wf,c.fj)/\c.ws=eG tm c.rd s.heap wf)/\c.rd=tw o.op s.env s.heap)/\
   (c.on=false->c.v= .xW []/\c.ws=[]/\c.fj=s.nx/\c.rd=[])/\nO G O all tm r cs ⟨fp o.dst c.v s.env,za c.ws s.heap,c.fj⟩ s'
 |_,_,_,_=>False
def YQ:Nat->List Rc->List (Nat×List Nat×List Nat)->List (Nat×List Nat×List Nat)
 |_,[],log=>log
 |i,c::cs,log=>YQ (i+1) cs (if c.on=true then(i,c.rd,c.keys)::log else log)
theorem ln{G:GP}{O:xt}(all:List Oper){tm:Bool}: ∀{l:List Oper}{i:Nat}{s s' :St}{log:List (Nat×List Nat×List Nat)},dX G O all tm i l s log=some s' ->
  ∃cs,nO G O all tm l cs s s' /\mC (wR [] all) (YQ i cs log)=true
 |[],i,s,s',log,h=>by simp only[dX]at h;split at h<;>cases h;rename_i hc;exact⟨[],rfl,hc⟩
 |o::r,i,s,s',log,h=>by simp only[dX]at h;split at h;rename_i hg;split at h;rename_i v ws nx ZP;obtain⟨cs,h1,h2⟩:=ln all h;exact⟨⟨s.env,s.heap,s.nx,true,v,eG tm (tw o.op s.env s.heap) s.heap ws,nx,tw o.op s.env s.heap⟩::cs,⟨rfl,rfl,rfl,hg,fun _=>⟨⟨ws,ZP,rfl⟩,rfl⟩,(fun h=>by cases h),h1⟩,h2⟩;cases h;rename_i hg;obtain⟨cs,h1,h2⟩:=ln all h;exact⟨⟨s.env,s.heap,s.nx,false,.xW [],[],s.nx,[]⟩::cs,⟨rfl,rfl,rfl,hg,(fun h=>by cases h),fun _=>⟨rfl,rfl,rfl,rfl⟩,h1⟩,h2⟩;cases h
theorem nO.len{G:GP}{O:xt}{all:List Oper}{tm:Bool}: ∀{l:List Oper}{cs:List Rc}{s s' :St},nO G O all tm l cs s s' ->cs.length=l.length
 |[],[],_,_,_=>rfl
 |[],_::_,_,_,h=>h.elim
 |_::_,[],_,_,h=>h.elim
 |_::r,_::cs,_,_,h=>by simp[nO.len h.2.2.2.2.2.2]
theorem ZF: ∀{l L:List Nat},JP l L=true-> ∀x∈l,x∉L
 |[],L,_,x,hx=>by simp at hx
 |y::r,L,h,x,hx=>by simp only[JP,zU,O!]at h;rcases U?.1 hx with rfl|hx;intro hc;rw[(lI L x).2 hc]at h;simp at h;exact ZF h.2 x hx
def In(a b:Rc):Prop:=(∀ x∈a.keys,x∉b.rd)/\(∀ x∈a.keys,x∉b.keys)/\ ∀x∈a.rd,x∉b.keys
theorem QE{ms:List Nat}{j:Nat}{rd wr:List Nat}: ∀{l:List (Nat×List Nat×List Nat)},Q2 ms j rd wr l=true-> ∀e∈l,ordered ms e.1 j=true\/(JP e.2.2 rd=true/\JP e.2.2 wr=true/\JP e.2.1 wr=true)
 |[],_,e,he=>by simp at he
 |(i,rdi,wri)::r,h,e,he=>by simp only[Q2,zU,j!]at h;rcases U?.1 he with rfl|he;rcases h.1 with h1|⟨⟨h1,h2⟩,h3⟩;exact .inl h1;exact .inr ⟨h1,h2,h3⟩;exact QE h.2 e he
theorem YR{ms:List Nat}: ∀(cs:List Rc)(i:Nat)(log:List (Nat×List Nat×List Nat)),mC ms (YQ i cs log)=true->
  mC ms log=true/\ ∀(b:Nat)(cb:Rc),cs[b]? =some cb->cb.on=true->
   (∀ e∈log,ordered ms e.1 (i+b)=true\/(JP e.2.2 cb.rd=true/\JP e.2.2 cb.keys=true/\JP e.2.1 cb.keys=true))/\
   ∀(a:Nat)(ca:Rc),a<b->cs[a]? =some ca->ca.on=true->ordered ms (i+a) (i+b)=true\/In ca cb
 |[],i,log,h=>⟨h,z?⟩
 |c::cs,i,log,h=>by (simp only[YQ]at h;obtain⟨h1,h2⟩:=YR cs (i+1) _ h;have hlog:mC ms log=true:=by split at h1;simp only[mC,zU]at h1;exact h1.2;exact h1);refine⟨hlog,fun b cb hb Fg=>?_⟩;cases b with|zero=>simp only[a?,wd]at hb;subst hb;rw[if_pos Fg]at h1;simp only[mC,zU]at h1;exact⟨fun e he=>QE h1.1 e he,fun a ca ha=>o?⟩|succ b=>simp only[i?]at hb;obtain⟨k1,k2⟩:=h2 b cb hb Fg;rw[show i+1+b=i+(b+1)from o?]at k1 k2;refine⟨fun e he=>k1 e (by split<;>simp[he]),fun a ca ha hca hcon=>?_⟩;cases a with|zero=>simp only[a?,wd]at hca;subst hca;rcases k1 (i,c.rd,c.keys) (by rw[if_pos hcon];simp)with h|⟨q1,q2,q3⟩;exact .inl h;exact .inr ⟨ZF q1,ZF q2,ZF q3⟩|succ a=>simp only[i?]at hca;have:=k2 a ca o? hca hcon;rwa[show i+1+a=i+(a+1)from o?]at this
theorem To{ms:List Nat}{o:Oper}{i:Nat}(h:(Hs ms o).testBit i=true): ∃e∈o.after,Region.binds .any e=true/\(i=e.on\/(ms.getD e.on 0).testBit i=true):=by
 have key: ∀(l:List Edge)(m:Nat),(l.foldl (fun m e=>if Region.binds .any e=true then m ||| (1 <<< e.on) ||| ms.getD e.on 0 else m) m).testBit i=true->
   m.testBit i=true\/ ∃e∈l,Region.binds .any e=true/\(i=e.on\/(ms.getD e.on 0).testBit i=true):=by
  intro l;induction l with
  |nil=>intro m h;exact .inl h
  |cons e l ih=>
   intro m h;simp only[List.foldl_cons]at h;rcases ih _ h with h|⟨e',h1,h2,h3⟩
   ·split at h
    ·rename_i hb;rw[q13,q13,Nat.one_shiftLeft,Nat.testBit_two_pow]at h;simp only[j!,decide_eq_true_eq]at h;rcases h with (h|h)|h
     ·exact .inl h
     ·exact .inr ⟨e,z?,hb,.inl h.symm⟩
     exact .inr ⟨e,z?,hb,.inr h⟩
    exact .inl h
   exact .inr ⟨e',by simp[h1],h2,h3⟩
 rcases key o.after.toList 0 h with h|⟨e,h1,h2⟩;simp at h;exact⟨e,by simpa using h1,h2⟩
theorem eA: ∀(os:List Oper)(ms:List Nat)(k:Nat),k<ms.length->(wR ms os).getD k 0=ms.getD k 0
 |[],ms,k,_=>rfl
 |o::r,ms,k,h=>by simp only[wR];rw[eA r _ k v?];simp[t? h]
theorem ZW: ∀(os:List Oper)(ms:List Nat)(j:Nat)(o:Oper),os[j]? =some o-> ∃ms' :List Nat,ms'.length=ms.length+j/\(wR ms os).getD (ms.length+j) 0=Hs ms' o/\
  ∀k,k<ms.length+j->ms'.getD k 0=(wR ms os).getD k 0
 |[],ms,j,o,h=>by simp at h
 |o' ::r,ms,j,o,h=>by simp only[wR];cases j with|zero=>simp only[a?,wd]at h;subst h;refine⟨ms,z?, ?_,fun k hk=>?_⟩;rw[eA r _ _ z?];simp;rw[eA r _ k v?];simp at hk;simp[t? hk]|succ j=>simp only[i?]at h;obtain⟨ms',h1,h2,h3⟩:=ZW r (ms++[Hs ms o']) j o h;simp only[List.length_append,List.length_singleton]at h1 h2 h3;rw[show ms.length+1+j=ms.length+(j+1)from o?]at h1 h2 h3;exact⟨ms',h1,h2,h3⟩
def Ow(os:List Oper):Bool:=os.zipIdx.all fun x=>x.1.after.toList.all fun e=> !Region.binds .any e || decide (e.on<x.2)
def S7(os:List Oper)(ms:List Nat):Bool:=(F? os.length).all fun j=>(F? j).all fun i=>ordered ms i j || match os[i]?,os[j]? with
 |some x,some y=>x.apart os.toArray y
 |_,_=>true
def XC(os:List Oper):Bool:=Ow os&&S7 os (wR [] os)
theorem BX{os:List Oper}(h:Ow os=true){j:Nat}{o:Oper}(ho:os[j]? =some o){e:Edge}(he:e∈o.after)(hb:Region.binds .any e=true):e.on<j:=by have h1:=V!.1 h (o,j) (by rw[List.mem_zipIdx_iff_getElem?];exact ho);have h2:=V!.1 h1 e (by simpa using he);simpa[hb]using h2
theorem apart_spec{os:List Oper}{ms:List Nat}(h:S7 os ms=true){i j:Nat}{x y:Oper}(Ed:i<j)(hx:os[i]? =some x)(hy:os[j]? =some y):ordered ms i j=true\/x.apart os.toArray y=true:=by have hj:j<os.length:=(qL hy).1;have h1:=V!.1 (V!.1 h j (by simpa using hj)) i (by simpa using Ed);simpa[hx,hy]using h1
def Pe(os:List Oper)(D:Nat->Bool):Prop:= ∀j o,os[j]? =some o->D j=true-> ∀e∈o.after,Region.binds .any e=true->D e.on=true
theorem lu{os:List Oper}(hf:Ow os=true){D:Nat->Bool}(hD:Pe os D): ∀(j:Nat)(o:Oper),os[j]? =some o->
  (∀ e∈o.after,Region.binds .any e=true->D e.on=true)-> ∀i,ordered (wR [] os) i j=true->D i=true:=by intro j;induction j using r? with|_ j ih=>intro o ho VZ i hi;obtain⟨ms',h1,h2,h3⟩:=ZW os [] j o ho;simp only[List.length_nil,O?]at h1 h2 h3;unfold ordered at hi;rw[h2]at hi;obtain⟨e,e1,e2,e3⟩:=To hi;have xS:=BX hf ho e1 e2;have hDe:=VZ e e1 e2;rcases e3 with rfl|e3;exact hDe;rw[h3 _ xS]at e3;have MO:e.on<os.length:=Nat.lt_trans xS (qL ho).1;exact ih e.on xS os[e.on] (wK MO) (fun e' VU jD=>hD e.on _ (wK MO) hDe e' VU jD) i e3
def tX:List Oper->List Rc->Nat->(Nat->Bool)->yu->yu
 |o::os,c::cs,i,D,E=>tX os cs (i+1) D (if D i=true then fp o.dst c.v E else E)
 |_,_,_,_,E=>E
def wL:List Rc->Nat->(Nat->Bool)->qp->qp
 |c::cs,i,D,H=>wL cs (i+1) D (if D i=true then za c.ws H else H)
 |[],_,_,H=>H
theorem cC{t:Nat}{D D' :Nat->Bool}: ∀(os:List Oper)(cs:List Rc)(i:Nat)(E E' :yu),(∀ k o,os[k]? =some o->o.dst=some t->D (i+k)=D' (i+k))->E.get t=E'.get t->
  (tX os cs i D E).get t=(tX os cs i D' E').get t
 |[],_,_,_,_,_,h=>by simpa[tX]using h
 |_::_,[],_,_,_,_,h=>by simpa[tX]using h
 |o::os,c::cs,i,E,E',hD,h=>by simp only[tX];refine cC os cs (i+1) _ _ (fun k o' ho' hd' =>?_) ?_;have:=hD (k+1) o' (by simpa using ho') hd';rwa[show i+1+k=i+(k+1)from o?];by_cases hd:o.dst=some t;have:=hD 0 o rfl hd;simp only[d!]at this;rw[this];split;rw[fq,fq,if_pos hd,if_pos hd];exact h;(have e1:(if D i=true then fp o.dst c.v E else E).get t=E.get t:=by split;rw[fq,if_neg hd];rfl);(have e2:(if D' i=true then fp o.dst c.v E' else E').get t=E'.get t:=by split;rw[fq,if_neg hd];rfl);rw[e1,e2,h]
theorem oc: ∀(os:List Oper)(cs:List Rc)(i:Nat)(D:Nat->Bool)(E:yu),(∀ k,i<=k->D k=false)->tX os cs i D E=E
 |[],_,_,_,_,_=>rfl
 |_::_,[],_,_,_,_=>rfl
 |o::os,c::cs,i,D,E,h=>by simp only[tX,h i (ju _),wH,if_false];exact oc os cs (i+1) D E fun k hk=>h k o?
theorem mD: ∀(cs:List Rc)(i:Nat)(D:Nat->Bool)(H:qp),(∀ k,i<=k->D k=false)->wL cs i D H=H
 |[],_,_,_,_=>rfl
 |c::cs,i,D,H,h=>by simp only[wL,h i (ju _),wH,if_false];exact mD cs (i+1) D H fun k hk=>h k o?
theorem W3{t:Nat}{D:Nat->Bool}: ∀(os:List Oper)(cs:List Rc)(i:Nat)(E:yu)(j:Nat)(o:Oper)(c:Rc),os[j]? =some o->cs[j]? =some c->o.dst=some t->D (i+j)=true->
  (∀ k o',j<k->os[k]? =some o' ->o'.dst=some t->D (i+k)=false)->(tX os cs i D E).get t=c.v
 |[],_,_,_,j,o,c,ho,_,_,_,_=>by simp at ho
 |_::_,[],_,_,j,o,c,_,hc,_,_,_=>by simp at hc
 |o' ::os,c' ::cs,i,E,j,o,c,ho,hc,hd,hD,hl=>by simp only[tX];cases j with|zero=>simp only[a?,wd]at ho hc;subst ho hc;simp only[d!]at hD;rw[hD];simp only[if_true];rw[cC (D' :=fun _=>false) os cs (i+1) _ (fp o'.dst c'.v E) (fun k o2 h2 F6=>?_) rfl,oc _ _ _ _ _ (fun _ _=>rfl),fq,if_pos hd];have:=hl (k+1) o2 o? (by simpa using h2) F6;rwa[show i+1+k=i+(k+1)from o?]|succ j=>simp only[i?]at ho hc;refine W3 os cs (i+1) _ j o c ho hc hd (by rwa[show i+1+j=i+(j+1)from o?]) fun k o2 hk h2 F6=>?_;have:=hl (k+1) o2 o? (by simpa using h2) F6;rwa[show i+1+k=i+(k+1)from o?]
theorem HN(ws:List (Nat×qJ)){H H' :qp}{γ:Nat}(h:H.get γ=H'.get γ):(za ws H).get γ=(za ws H').get γ:=by by_cases hr:γ∈ws.map (·.1);exact aT ws H H' γ hr;have jZ: ∀x∈ws,x.1≠γ:=fun x hx e=>hr (by rw[<- e];exact G?.2 ⟨x,hx,rfl⟩);rw[k9 ws _ γ jZ,k9 ws _ γ jZ,h]
theorem pa{γ:Nat}{D D' :Nat->Bool}: ∀(cs:List Rc)(i:Nat)(H H' :qp),(∀ k c,cs[k]? =some c->γ∈c.keys->D (i+k)=D' (i+k))->H.get γ=H'.get γ->
  (wL cs i D H).get γ=(wL cs i D' H').get γ
 |[],_,_,_,_,h=>by simpa[wL]using h
 |c::cs,i,H,H',hD,h=>by simp only[wL];refine pa cs (i+1) _ _ (fun k c' Gt Zs=>?_) ?_;have:=hD (k+1) c' (by simpa using Gt) Zs;rwa[show i+1+k=i+(k+1)from o?];by_cases hd:γ∈c.keys;have:=hD 0 c rfl hd;simp only[d!]at this;rw[this];split;exact HN _ h;exact h;(have jZ: ∀x∈c.ws,x.1≠γ:=fun x hx e=>hd (by rw[<- e];exact G?.2 ⟨x,hx,rfl⟩);have e1:(if D i=true then za c.ws H else H).get γ=H.get γ:=by split;exact k9 _ _ _ jZ;rfl);(have e2:(if D' i=true then za c.ws H' else H').get γ=H'.get γ:=by split;exact k9 _ _ _ jZ;rfl);rw[e1,e2,h]
theorem Jo{γ:Nat}{D:Nat->Bool}: ∀(cs:List Rc)(i:Nat)(H:qp)(j:Nat)(c:Rc),cs[j]? =some c->γ∈c.keys->D (i+j)=true->
  (∀ k c',j<k->cs[k]? =some c' ->γ∈c'.keys->D (i+k)=false)-> ∀H',(wL cs i D H).get γ=(za c.ws H').get γ
 |[],_,_,j,c,hc,_,_,_,_=>by simp at hc
 |c' ::cs,i,H,j,c,hc,hd,hD,hl,H' =>by simp only[wL];cases j with|zero=>simp only[a?,wd]at hc;subst hc;simp only[d!]at hD;rw[hD];simp only[if_true];rw[pa (D' :=fun _=>false) cs (i+1) _ (za c'.ws H) (fun k c2 h2 F6=>?_) rfl,mD _ _ _ _ (fun _ _=>rfl)];exact aT _ _ _ _ hd;have:=hl (k+1) c2 o? (by simpa using h2) F6;rwa[show i+1+k=i+(k+1)from o?]|succ j=>simp only[i?]at hc;refine Jo cs (i+1) _ j c hc hd (by rwa[show i+1+j=i+(j+1)from o?]) (fun k c2 hk h2 F6=>?_) H';have:=hl (k+1) c2 o? (by simpa using h2) F6;rwa[show i+1+k=i+(k+1)from o?]
def yC(H:qp)(nx:Nat)(e:my):Prop:=
 (∀ β b,H.get β=some b->β<nx)->nx<=e.2.2/\(∀ x∈e.2.1,x.1<e.2.2)/\ ∀γ,nx<=γ->γ<e.2.2->γ∈e.2.1.map (·.1)
section
variable {H:qp} {nx:Nat}
theorem keys_nil(v:AV):yC H nx (v,[],nx):=fun _=>⟨ju _,z?,fun γ h1 h2=>by simp at h2;omega⟩
theorem cE(v:AV)(b:qJ):yC H nx (v,[(nx,b)],nx+1):=fun _=>⟨Nat.le_succ _,z?,fun γ h1 h2=>by simp at h2 |-; omega⟩
theorem lG(v:AV){β:Nat}{b b' :qJ}(h:H.get β=some b):yC H nx (v,[(β,b')],nx):=fun hn=>⟨ju _,by simpa using hn β b h,fun γ h1 h2=>by simp at h2;omega⟩
theorem cF{v:Option AV}{e:my}(h:bM v nx=some e):yC H nx e:=by unfold bM at h;split at h<;>cases h;exact keys_nil _
theorem SG{v:Option PV}{e:my}(h:Jz v nx=some e):yC H nx e:=by unfold Jz at h;split at h<;>cases h;exact keys_nil _
def QA(H:qp)(ws:List (Nat×qJ)):Prop:=ws=[]\/ ∃β b b',H.get β=some b/\ws=[(β,b')]
theorem Hk{ws:List (Nat×qJ)}(v:AV)(h:QA H ws):yC H nx (v,ws,nx):=by rcases h with rfl|⟨β,b,b',hb,rfl⟩;exact keys_nil _;exact lG _ hb
theorem eQ{ws:Option (List (Nat×qJ))}{e:my}(h:mo ws nx=some e)(hw: ∀l,ws=some l->QA H l):yC H nx e:=by unfold mo at h;split at h<;>cases h;exact Hk _ (hw _ rfl)
theorem Vg{sz β xm i o size:Nat}{vs:List AV}{es:List (List AV)}{l:List (Nat×qJ)}{b:qJ}(hb:H.get β=some b)(h:Zh sz β xm i o size vs es=some l):QA H l:=by unfold Zh at h;cases h
theorem RG{β xm i o size:Nat}{v:AV}{ds:List Nat}{es:List PV}{l4:Option (Nat×Nat×Nat)}{l:List (Nat×qJ)}{b:qJ}(hb:H.get β=some b)(h:J2 β xm i o size v ds es l4=some l):QA H l:=by unfold J2 at h;split at h;split at h<;>cases h;exact .inr ⟨_,_,_,hb,rfl⟩;cases h
theorem Py{ti:TI}{a v:AV}{l:List (Nat×qJ)}(h:o6 ti a v H=some l):QA H l:=by unfold o6 at h;split at h;rotate_left;cases h;split at h;split at h;rename_i hb;split at h<;>cases h;exact .inr ⟨_,_,_,hb,rfl⟩;cases h;split at h;split at h;rename_i hb;split at h;split at h;split at h<;>cases h;exact .inr ⟨_,_,_,hb,rfl⟩;cases h;cases h;rename_i hb;exact Vg hb h;cases h;split at h;rename_i hb;exact Vg hb h;rename_i hb;exact RG hb h;cases h;cases h
theorem UO{tk:TI}{m k v:AV}{l:List (Nat×qJ)}(h:dV tk m k v H=some l):QA H l:=by unfold dV at h;cases h
theorem VL{G:GP}{t:TypeId}{m k x:AV}{e:my}(h:lk G t m k x H nx=some e):yC H nx e:=by unfold lk at h;split at h;split at h;exact eQ h fun l hl=>UO hl;cases h;cases h
theorem KF{G:GP}{t:TypeId}{x:AV}{e:my}(h:tU G t x H nx=some e):yC H nx e:=by unfold tU at h;cases h
theorem J6{tk:TI}{m k:AV}{v:PV}{l:List (Nat×qJ)}(h:rE tk m k v H=some l):QA H l:=by unfold rE at h;split at h;split at h;split at h;rename_i hb;split at h<;>cases h<;>exact .inr ⟨_,_,_,hb,rfl⟩;cases h;cases h;cases h
theorem Pv{tk te:TI}{m k:AV}{v:AV}{l:List (Nat×qJ)}(h:lh tk te m k H=some (v,l)):QA H l:=by unfold lh at h;cases h
theorem JL{m st:AV}{v:PV}{l:List (Nat×qJ)}(h:bP m st v H=some l):QA H l:=by unfold bP at h;cases h
theorem Be{tk:TI}{m k:AV}{l:List (Nat×qJ)}(h:cl tk m k H=some l):QA H l:=by unfold cl at h;split at h;split at h<;>cases h;exact .inl rfl;split at h;split at h;rename_i hb;split at h<;>cases h<;>exact .inr ⟨_,_,_,hb,rfl⟩;cases h;cases h;cases h
theorem ZK{te:TI}{s:AV}{src:List (List PV)}{e:my}(h:ki te s src nx nx (nx+1)=some e):yC H nx e:=by unfold ki at h;split at h;cases h;exact keys_nil _;split at h<;>cases h;exact cE _ _
theorem Ha{te:TI}{s:AV}{src:List (List PV)}{β:Nat}{b:qJ}{e:my}(hb:H.get β=some b)(h:ki te s src β nx nx=some e):yC H nx e:=by unfold ki at h;split at h;cases h;exact keys_nil _;split at h<;>cases h;exact lG _ hb
theorem Vy{te:TI}{s x:AV}{e:my}(h:mB te s x H nx=some e):yC H nx e:=by unfold mB at h;cases h
theorem UI{te:TI}{s x:AV}{e:my}(h:hZ te s x H nx=some e):yC H nx e:=by unfold hZ at h;split at h;exact Vy h;split at h;rotate_left;cases h;split at h;exact ZK h;exact ZK h;split at h;rename_i hb;split at h;exact Ha hb h;cases h;rename_i hb;split at h;split at h<;>cases h<;>exact lG _ hb;cases h;cases h;cases h
theorem Ps{te:TI}{s x:AV}{e:my}(h:Zz te s x H nx=some e):yC H nx e:=by unfold Zz at h;split at h;cases h;split at h;split at h;rename_i hb;split at h<;>cases h;exact lG _ hb;cases h;cases h
theorem VD{src dst:TD}{dte:TypeId->Option TI}{x:AV}{e:my}(h:rD src dst dte x H nx=some e):yC H nx e:=by unfold rD at h;split at h;cases h;exact keys_nil _;cases h;exact keys_nil _;split at h;split at h;split at h;split at h;split at h<;>cases h;exact keys_nil _;cases h;cases h;cases h;cases h;split at h;split at h;cases h;exact cE _ _;cases h;cases h;cases h
theorem VA{e0:TypeId}{te:TI}{s x:AV}{e:my}(h:bA e0 te s x H nx=some e):yC H nx e:=by unfold bA at h;cases h
theorem Vz{te:TI}{s x:AV}{e:my}(h:nP te s x H nx=some e):yC H nx e:=by unfold nP at h;split at h;rotate_left;cases h;split at h;rotate_left;cases h;split at h;rotate_left;cases h;rename_i hb;split at h<;>cases h;exact lG _ hb
theorem NL{e0:TypeId}{te:TI}{s x:AV}{e:my}(h:orT (hZ te s x H nx) (orT (bA e0 te s x H nx) (nP te s x H nx))=some e):yC H nx e:=by cases ha:hZ te s x H nx with|some r=>rw[ha]at h;cases h;exact UI ha|none=>rw[ha]at h;cases hb:bA e0 te s x H nx with|some r=>rw[hb]at h;cases h;exact VA hb|none=>rw[hb]at h;exact Vz h
theorem JM{x:AV}{e:my}(h:tD x H nx=some e):yC H nx e:=by unfold tD at h;cases h
theorem QR{el:TypeId}{p x:AV}{e:my}(h:gH el p x H nx=some e):yC H nx e:=by unfold gH at h;cases h
theorem UH{G:GP}{t:TypeId}{ti:TI}{e:my}(h:Zy G t ti nx=some e):yC H nx e:=by unfold Zy at h;cases h
theorem VC{G:GP}{b:Builtin}{cu:List TypeId}{args:List AV}{e:my}(h:rC G b cu args H nx=some e):yC H nx e:=by unfold rC at h;split at h;split at h;split at h;split at h<;>cases h;exact keys_nil _;cases h;cases h;exact JM h;{split at h;rotate_left;cases h;split at h;rotate_left;cases h;split at h;rotate_left;cases h;split at h;rotate_left;cases h;exact QR h};split at h<;>cases h;exact keys_nil _;split at h<;>cases h;exact keys_nil _;split at h;split at h;split at h;exact NL h;cases h;split at h;exact NL h;cases h;cases h;cases h;split at h;split at h;split at h;exact Ps h;cases h;cases h;cases h;split at h;split at h;split at h;split at h<;>cases h;rename_i hd;exact Hk _ (Be hd);cases h;cases h;cases h;cases h
theorem JA(g:Nat->Nat): ∀(H:qp)(i j:Nat),uU i H=true->i<=j->j<i+H.length->g j∈(yg g H).map (·.1)
 |[],i,j,_,h1,h2=>by simp at h2;omega
 |(k,b)::r,i,j,hk,h1,h2=>by simp only[uU,zU,decide_eq_true_eq]at hk;obtain⟨rfl,hk⟩:=hk;simp only[yg,d?,U?];by_cases h:j=k;exact .inl (by rw[h]);exact .inr (JA g r (k+1) j hk o? (by simp only[b?]at h2;omega))
theorem KT{O:xt}{f:FuncId}{args:List AV}{e:my}(h:eM O f args H nx=some e):yC H nx e:=by
 unfold eM at h;split at h;cases h;rename_i L H0 Z1;split at h;cases h;rename_i v H' dj;split at h<;>cases h;rename_i hk;intro hn;obtain⟨hs,_,_⟩:=oI List.nodup_nil Z1;refine⟨Nat.le_add_right _ _,fun x hx=>?_,fun γ h1 h2=>?_⟩;obtain⟨j,_,q2,q3⟩:=dC _ H' 0 hk x hx;rw[q3];by_cases hj:j<L.length;(have a1:L[j]? =some L[j]:=by simp[hj]);(obtain⟨b1,Hd,_⟩:=hs.has _ (zc a1);have:=hn _ b1 Hd;have e1:jm L nx j=L[j]:=by simp[jm,a1]);simp only[e1];omega;(have e1:jm L nx j=nx+(j-L.length):=by simp[jm,o_ (by omega:L.length<=j)]);simp only[e1];omega;simp only at h2;have:=JA (jm L nx) H' 0 (L.length+(γ-nx)) hk (E! _) o?;have e1:jm L nx (L.length+(γ-nx))=γ:=by simp[jm,o_ (by omega:L.length<=L.length+(γ-nx))];omega
 rwa[e1]at this
theorem IM{G:GP}{O:xt}{o:Op}{E:yu}{e:my}(h:mz G O o E H nx=some e):yC H nx e:=by cases o with|move x=>cases h;exact keys_nil _|assign x=>cases h;exact keys_nil _|pick c a b=>simp only[mz]at h;split at h<;>cases h;exact keys_nil _|alloc t=>simp only[mz]at h;split at h;rotate_left;cases h;split at h;exact UH h;cases h;exact cE _ _|box t x=>simp only[mz]at h;split at h;unfold aBox at h;split at h;split at h<;>cases h;exact keys_nil _;cases h;exact cE _ _;cases h|build t ps=>simp only[mz]at h;split at h;exact cF h;cases h|buildSlice t n ps=>simp only[mz]at h;split at h;split at h;split at h;split at h;split at h;split at h<;>cases h;exact cE _ _;split at h<;>cases h;exact cE _ _;cases h;cases h;cases h;cases h|load t a=>simp only[mz]at h;split at h;exact cF h;cases h|store t a x=>simp only[mz]at h;split at h;exact eQ h fun l hl=>Py hl;cases h|nilCheck x=>simp only[mz]at h;split at h<;>cases h<;>exact keys_nil _|binOp op t x y z=>simp only[mz]at h;split at h;exact SG h;cases h|unOp op t x=>exact SG h|convert s d x=>simp only[mz]at h;split at h;exact KF h;split at h;exact VD h;cases h|makeFunc fn a b=>(cases fn with|func f=>cases h;exact keys_nil _|_=>cases h)|makeMap t r=>(cases r with|none=>simp only[mz]at h;cases h;exact cE _ _|some _=>cases h)|makeSlice t l c=>simp only[mz]at h;split at h;unfold sE at h;split at h;split at h;split at h<;>cases h;exact cE _ _;cases h;cases h;cases h|slice t x lo hi mx=>simp only[mz]at h;split at h;exact cF h;cases h|fieldAddr t x f=>simp only[mz]at h;split at h;exact cF h;cases h|field t x f=>simp only[mz]at h;split at h;split at h;split at h;split at h;exact cF h;cases h;cases h;cases h;cases h|indexAddr t x i=>simp only[mz]at h;split at h;exact cF h;cases h|index t x i=>simp only[mz]at h;split at h;split at h;split at h<;>cases h;exact keys_nil _;split at h;split at h;exact cF h;cases h;cases h;cases h;cases h|lookup t m k ok=>simp only[mz]at h;split at h;exact cF h;cases h|mapUpdate t m k x=>simp only[mz]at h;split at h;exact VL h;split at h;split at h;exact eQ h fun l hl=>J6 hl;cases h;cases h|insert t m k x=>simp only[mz]at h;split at h;split at h;exact eQ h fun l hl=>J6 hl;cases h;cases h|mapEntry t m k=>simp only[mz]at h;split at h;split at h<;>cases h;rename_i he;exact Hk _ (Pv he);cases h|entryStore t m st x=>simp only[mz]at h;split at h;exact eQ h fun l hl=>JL hl;cases h|extract t i=>simp only[mz]at h;split at h;split at h<;>cases h;exact keys_nil _;cases h|call c=>(obtain⟨callee,args,cu⟩:=c;cases callee with|builtin b=>exact VC h|value f=>simp only[mz]at h;split at h;exact KT h;exact KT h;cases h|_=>cases h)|_=>cases h
end
def Ex.BP:Ex->Exit
 | .normal=> .normal
 | .ret=> .ret
 | .exit id=> .exit id
structure lg (k:Nat) (w:World) (H:qp) (ι:yv) (Im:Nat->Prop) (w' :World) (H' :qp) (ι' :yv) (kh:Nat->Prop):Prop where
 comp: ∀β b,β<k->H.get β=some b-> ∃b',H'.get β=some b' /\jc b b' (ι β) (ι' β)
 im: ∀b,Im b->kh b
 pX: ∀b,kh b->Im b\/w.heap.size<=b\/ ∃β x,H.get β=some x/\x.yi (ι β) b
 nS: ∀β x z,H'.get β=some x->x.yi (ι' β) z->w.heap.size<=z\/ ∃β0 x0,H.get β0=some x0/\x0.yi (ι β0) z
 kR: ∀b,b<w.heap.size->(∀ β x,H.get β=some x-> ¬x.yi (ι β) b)->w'.heap[b]? =w.heap[b]?
 size:w.heap.size<=w'.heap.size
 io:w'.os=w.os/\w'.output=w.output
theorem vj.toK{w w' :World}{H H' :qp}{ι ι' :yv}{Im kh:Nat->Prop}(h:vj w H ι Im w' H' ι' kh)(k:Nat):lg k w H ι Im w' H' ι' kh:=
 ⟨fun β b _ hb=>h.comp β b hb,h.im,h.pX,h.nS,h.kR,h.size,h.io⟩
theorem lg.full{k:Nat}{w w' :World}{H H' :qp}{ι ι' :yv}{Im kh:Nat->Prop}(h:lg k w H ι Im w' H' ι' kh)(hk: ∀β b,H.get β=some b->β<k):vj w H ι Im w' H' ι' kh:=
 ⟨fun β b hb=>h.comp β b (hk β b hb) hb,h.im,h.pX,h.nS,h.kR,h.size,h.io⟩
theorem lg.trans{k:Nat}{w w1 w2:World}{H H1 H2:qp}{ι ι1 ι2:yv}{Im iX Gs:Nat->Prop}
  (h1:lg k w H ι Im w1 H1 ι1 iX) (h2:lg k w1 H1 ι1 iX w2 H2 ι2 Gs):lg k w H ι Im w2 H2 ι2 Gs where
 comp:=fun β b hk h=>by obtain⟨b1,g1,c1⟩:=h1.comp β b hk h;obtain⟨b2,g2,c2⟩:=h2.comp β b1 hk g1;exact⟨b2,g2,ZE c1 c2⟩
 im:=fun b h=>h2.im b (h1.im b h)
 pX:=fun b h=>by rcases h2.pX b h with h|h|⟨β,x,hx,hu⟩;exact h1.pX b h;exact .inr (.inl (p! h1.size h));rcases h1.nS β x b hx hu with h|⟨β0,x0,g,L1⟩;exact .inr (.inl h);exact .inr (.inr ⟨β0,x0,g,L1⟩)
 nS:=fun β x z h hu=>by rcases h2.nS β x z h hu with h|⟨β0,x0,g,L1⟩;exact .inl (p! h1.size h);exact h1.nS β0 x0 z g L1
 kR:=fun b hb hn=>by
  have e1:=h1.kR b hb hn;have e2:=h2.kR b (N! hb h1.size) (fun β x hx hu=>by
   rcases h1.nS β x b hx hu with h|⟨β0,x0,g,L1⟩
   ·omega
   exact hn β0 x0 g L1)
  exact e2.trans e1
 size:=p! h1.size h2.size
 io:=⟨h2.io.1.trans h1.io.1,h2.io.2.trans h1.io.2⟩
def QQ[xn](k:Nat)(w:World)(H:qp)(ι:yv)(Im:Nat->Prop)(nt:Nat)(s:St)(a:Act)(w' :World):Prop:=
 ∃ι' kh,Inv w' a s ι' kh nt/\lg k w H ι Im w' s.heap ι' kh
theorem QQ.from[xn]{k:Nat}{w:World}{H:qp}{ι:yv}{Im:Nat->Prop}{w1:World}{H1:qp}{ι1:yv}{iX:Nat->Prop}{nt:Nat}{s:St}{a:Act}{w' :World}(h:QQ k w1 H1 ι1 iX nt s a w')(he:lg k w H ι Im w1 H1 ι1 iX):
  QQ k w H ι Im nt s a w' :=
 let⟨ι',kh,h1,h2⟩:=h
 ⟨ι',kh,h1,he.trans h2⟩
def Ir[xn](P:Program)(G:GP)(f:FuncId)(id:Nat)(s:St)(ex:Ex)(s' :St):Prop:=
 ∀fi c,G.fn f=some fi->zQ fi.body id=some c->(∀ i,ex= .exit i->i≠id)/\ ∃n,∀(w:World)(ι:yv)(Im:Nat->Prop)(a:Act),Inv w a s ι Im fi.nt->
  Code.rounds P c (fun e a' w' =>e=(match ex with| .exit i=>Exit.exit i| .ret=> .ret| .normal=> .exit id)/\QQ (s.nx-(G.spec f id).off) w s.heap ι Im fi.nt s' a' w') n a w
structure Sound [xn] (P:Program) (G:GP) (O:xt):Prop extends SoundCall P O where
 loop: ∀f id s ex s',O.loop f id s=some (ex,s')->Ir P G f id s ex s'
def opsOK(nt:Nat)(ops:List Oper):Bool:=ops.all fun o=>match o.dst with|some d=>decide (d<nt)|none=>true
theorem WL{nt:Nat}{ops:List Oper}(h:opsOK nt ops=true):Ys nt ops:=by intro o ho t ht;have:=V!.1 h o ho;rw[ht]at this;simpa using this
section
variable [xn] {P:Program} {w:World} {H:qp} {ι:yv} {Im:Nat->Prop}
theorem Xa: ∀(E:yu)(l:List Nat)(t:Nat),(restrict E l).get t=if t∈l then E.get t else .undef
 |E,[],t=>by simp[restrict,B!]
 |E,x::r,t=>by simp only[restrict,B!,Xa E r t,U?];by_cases h:x=t;subst h;simp;simp[h,c_ h]
theorem oz{a:Act}{E:yu}(hE: ∀t,RA w H ι Im (E.get t) (a.tmps.getD t undef))(l:List Nat): ∀t,RA w H ι Im ((restrict E l).get t) (a.tmps.getD t undef):=by intro t;rw[Xa];split;exact hE t;exact .undef _
theorem dD{a:Act}{s:St}{nt:Nat}(h:Inv w a s ι Im nt)(l:List Nat):Inv w a { s with env:=restrict s.env l } ι Im nt:=
 ⟨h.heap,oz h.env l,h.nx,h.size,h.defers⟩
theorem bL(n:Nat): ∀(H:qp)(γ:Nat),(A' n H).get γ=if γ<n then H.get γ else none
 |[],γ=>by simp[A',L!]
 |(i,b)::r,γ=>by simp only[A'];split;rename_i h;simp only[L!,bL n r γ];by_cases e:i=γ;subst e;simp[h];simp[e];rename_i h;rw[bL n r γ];simp only[L!];by_cases e:i=γ;subst e;simp[h];simp[e]
theorem o8(n:Nat): ∀(l:List Nat),cx n l=true↔ ∀x∈l,x<n
 |[]=>by simp[cx]
 |x::r=>by simp[cx,o8 n r]
theorem iJ{H' :qp}{x:AV}{v:Value}(hx:RA w H ι Im x v)(hg: ∀β∈x.refs,∀ b,H.get β=some b->H'.get β=some b):RA w H' ι Im x v:=by
 induction hx with
 |undef v=>exact .undef v
 |pv p v h=>exact .pv p v h
 |ptr β o c hb hk=>exact .ptr β o c (hg β (by simp[E?]) _ hb) hk
 |uS β xm i o b1 o1 b hb jJ h=>exact .uS β xm i o b1 o1 b (hg β (by simp[E?]) _ hb) jJ h
 |row β xm off n v b ho hb hk jJ h=>exact .row β xm off n v b ho (hg β (by simp[E?]) _ hb) hk jJ h
 |tQ c o b off vs Qt hc hf h=>exact .tQ c o b off vs Qt hc hf h
 |iW a=>exact .iW a
 |map β es zN hb=>exact .map β es zN (hg β (by simp[E?]) _ hb)
 |Q3 f a b va vb VX Su _ _ iha ihb=>
  exact .Q3 f a b va vb VX Su (fun i x v h1 h2=>iha i x v h1 h2 fun β hβ=>hg β (by simp only[E?,p?];exact .inl (yf h1 hβ)))
   (fun i x v h1 h2=>ihb i x v h1 h2 fun β hβ=>hg β (by simp only[E?,p?];exact .inr (yf h1 hβ)))
 |agg c vs hl hf _ ih=>exact .agg c vs hl hf fun i x v h1 h2=>ih i x v h1 h2 fun β hβ=>hg β (by simp only[E?];exact yf h1 hβ)
 |xW c vs hl _ ih=>exact .xW c vs hl fun i x v h1 h2=>ih i x v h1 h2 fun β hβ=>hg β (by simp only[E?];exact yf h1 hβ)
theorem Yo: ∀{E:yu}{n:Nat},yu.below n E=true-> ∀t,∀ β∈(E.get t).refs,β<n
 |[],n,_,t,β,h=>by simp[B!,E?]at h
 |(i,v)::r,n,hb,t,β,h=>by simp only[yu.below,zU]at hb;simp only[B!]at h;split at h;exact(o8 n _).1 hb.1 β h;exact Yo hb.2 t β h
theorem KP: ∀{H:qp}{n:Nat},q1b n H=true-> ∀{γ:Nat}{b:qJ},H.get γ=some b-> ∀β∈b.refs,β<n
 |[],n,_,γ,b,h=>by simp[L!]at h
 |(i,c)::r,n,hb,γ,b,h=>by simp only[q1b,zU]at hb;simp only[L!]at h;split at h;cases h;exact fun β hβ=>(o8 n _).1 hb.1 β hβ;exact KP hb.2 h
theorem upto_ok(hi:zf w H ι Im)(n:Nat)(hb:q1b n (A' n H)=true):zf w (A' n H) ι Im where
 N0:=hi.N0
 VS:=hi.VS
 ru:=fun γ b h=>by
  rw[bL]at h;split at h;rotate_left;cases h
  rename_i xS;have h0:=hi.ru γ b h;have hrefs: ∀β∈b.refs,β<n:=KP hb (γ:=γ) (by rw[bL,if_pos xS];exact h);cases b with
   |box c=>obtain⟨vs,elem,fz,q1,q2,q3,q4,q5⟩:=h0;refine⟨vs,elem,fz,q1,q2,q3,q4,fun i x v a b=>iJ (q5 i x v a b) fun β hβ b' jD=>?_⟩;rw[bL,if_pos (hrefs β (by simp only[q0l];exact yf a hβ))];exact jD
   |row qw sz es=>cases qw<;>exact h0
   |map es zN=>exact h0
   |mr sz es=>
    obtain⟨vs,elem,fz,q1,q2,q3,q4,q5,q6,q7,q8⟩:=h0;refine⟨vs,elem,fz,q1,q2,q3,q4,q5,q6,q7,fun i e j x a b=>?_⟩;obtain⟨v,k1,k2⟩:=q8 i e j x a b;refine⟨v,k1,iJ k2 fun β hβ b' jD=>?_⟩;rw[bL,if_pos (hrefs β (by
     simp only[q0l,List.mem_flatMap]
     exact⟨e,zc a,yf b hβ⟩))]
    exact jD
   |kj qw ds es l4=>cases qw with|true=>exact h0|false=>obtain⟨vs,elem,fz,q1,q2,q3,q4,q5,q6,q7,q8,q9⟩:=h0;refine⟨vs,elem,fz,q1,q2,q3,q4,q5,q6,q7,q8,fun i p k a b=>?_⟩;obtain⟨v,k1,k2,k3⟩:=q9 i p k a b;refine⟨v,k1,k2,fun γ' xm hf=>⟨(k3 γ' xm hf).1,iJ (k3 γ' xm hf).2 fun δ hδ c hc=>?_⟩⟩;simp only[E?,List.mem_singleton]at hδ;subst hδ;rw[bL,if_pos (hrefs _ (by simp[q0l,hf]))];exact hc
   |xH=>trivial
 inj:=fun γ γ' b b' z h h' u u' =>by rw[bL]at h h';split at h;rotate_left;cases h;split at h';rotate_left;cases h';exact hi.inj γ γ' b b' z h h' u u'
 im:=hi.im
 Vt:=fun γ b z h hu=>by rw[bL]at h;split at h;exact hi.Vt γ b z h hu;cases h
theorem YW{a:Act}{nt:Nat}{s0 s s' :St}{w0:World}{ι0:yv}{Qm:Nat->Prop}(h:Inv w a s ι Im nt)
  (Gw: ∀β b,s0.heap.get β=some b->β<s0.nx) (he:vj w0 s0.heap ι0 Qm w s.heap ι Im) (l:List Nat) (hr:narrow l s0.nx s=some s'):
  Inv w a s' ι Im nt/\vj w0 s0.heap ι0 Qm w s'.heap ι Im:=by unfold narrow at hr;simp only at hr;split at hr<;>cases hr;rename_i hc;simp only[zU]at hc;refine⟨⟨upto_ok h.heap _ hc.2,fun t=>?_,fun β b hb=>?_,h.size,h.defers⟩,⟨fun β b hb=>?_,he.im,he.pX,fun γ x z hx hu=>?_,he.kR,he.size,he.io⟩⟩;refine iJ (oz h.env l t) fun β hβ b hb=>?_;rw[bL,if_pos (Yo hc.1 t β hβ)];exact hb;simp only[bL]at hb;split at hb;assumption;cases hb;obtain⟨b',q1,q2⟩:=he.comp β b hb;exact⟨b',by simp only[bL];rw[if_pos (Gw β b hb)];exact q1,q2⟩;simp only[bL]at hx;split at hx;exact he.nS γ x z hx hu;cases hx
theorem ND{a:Act}{nt:Nat}{s0 s:St}{w0:World}{ι0:yv}{Qm:Nat->Prop}(h:Inv w a s ι Im nt)
  (Gw: ∀β b,s0.heap.get β=some b->β<s0.nx) (he:vj w0 s0.heap ι0 Qm w s.heap ι Im) (l:List Nat):
  Inv w a (eX l s0.nx s) ι Im nt/\vj w0 s0.heap ι0 Qm w (eX l s0.nx s).heap ι Im:=by unfold eX;split;rename_i s' oM;exact YW h Gw he l oM;exact⟨dD h l,he⟩
theorem Mf(g:Nat->Nat): ∀(E:yu)(t:Nat),(Rh g E).get t=(E.get t).cq g
 |[],t=>by simp[Rh,B!,AV.cq]
 |(i,v)::r,t=>by simp only[Rh,B!];split;rfl;exact Mf g r t
theorem Un: ∀{E:yu}{t β:Nat},β∈(E.get t).refs->β∈Um E
 |[],t,β,h=>by simp[B!,E?]at h
 |(i,v)::r,t,β,h=>by simp only[B!]at h;simp only[Um,p?];split at h;exact .inl h;exact .inr (Un h)
theorem Ub(m:Nat)(r:List Nat){β:Nat}(h:β<m):(F? m++r)[β]? =some β:=by rw[t? (by simpa using h)];simp[h]
theorem KU{a:Act}{nt:Nat}{s s' :St}(h:Inv w a s ι Im nt)(l:List Nat)(n:Nat)(hr:canon l n s=some s'):
  ∃ι',Inv w a s' ι' Im nt/\lg n w s.heap ι Im w s'.heap ι' Im:=by unfold canon at hr;split at hr<;>cases hr;rename_i L H' Z1;obtain⟨hs,Wn,rr,hL⟩:=oI q0o Z1;refine⟨Zi ι L,⟨hs.hinv h.heap,fun t=>?_,fun β b hb=>?_,h.size,h.defers⟩,⟨fun β b hk hb=>?_,fun _ h=>h,fun _ h=> .inl h,fun γ x z hx hu=>?_,fun _ _ _=>rfl,ju _,⟨rfl,rfl⟩⟩⟩;rw[Mf];exact Z9 _ (oz h.env l t) fun β hβ b hb=>hs.BH (Wn β (Un hβ)) b hb;obtain⟨γ,b0,q1,_⟩:=hs.inv (ι:=ι) hb;have:=(qL q1).1;show β<H'.length;rw[hs.len];exact this;(have hl:L[β]? =some β:=by rw[hL];exact Ub n rr hk);(refine⟨b.cq (pos L),by rw[hs.look,hl];simp[hb], ?_⟩;have:Zi ι L β=ι β:=by simp[Zi,hl]);rw[this];exact Ja (pos L) (gb b (ι β));obtain⟨β,b0,h1,h2,rfl,h4⟩:=hs.inv (ι:=ι) hx;rw[qJ.nY,h4]at hu;exact .inr ⟨β,b0,h2,hu⟩
theorem V6: ∀(E:yu)(n:Nat)(x:AV)(t:Nat),(setEnv E n x).get t=if t=n then x else E.get t
 |[],n,x,t=>by simp only[setEnv,B!];by_cases h:n=t;simp[h];simp[h,c_ h]
 |(i,v)::r,n,x,t=>by simp only[setEnv];split;rename_i h;subst h;simp only[B!];by_cases h2:i=t;simp[h2];simp[h2,c_ h2];rename_i h;simp only[B!,V6 r n x t];by_cases h2:i=t;subst h2;simp[h];simp[h2]
theorem q03(hi:zf w H ι Im){nx:Nat}(jf: ∀β b,H.get β=some b->β<nx):
  zf w (H.put nx (.row true 0 [])) (kl ι nx ⟨0,0,[]⟩) Im/\vj w H ι Im w (H.put nx (.row true 0 [])) (kl ι nx ⟨0,0,[]⟩) Im:=by have hf:=Wc (X:=fun _=>False) (fun β b h=> .inl (jf β b h)) id;exact zf.put (JZ:=NG hf) hi nx (.row true 0 []) ⟨0,0,[]⟩ (fun x hx=>by rw[hf]at hx;cases hx) ⟨ju _,rfl,rfl⟩ (fun _ _ _=>rfl) (fun h=>by cases h) (fun _=>rfl)
theorem YY{H' :qp}{nx:Nat}(hg:H'.get nx=some (.row true 0 []))(ι' :yv):RA w H' ι' Im (.row nx 0 0 0) (.slice none 0 0):=
 .row nx 0 0 0 _ _ rfl hg (fun _=>⟨_,_,_,rfl⟩) (fun _ _ _ e=>by cases e;exact ju _) fun _ _ _ e _=>by cases e;exact⟨ju _,z?⟩
theorem YZ{sz:Nat}{v:Value}(h:RA w H ι Im (.pv (.sl true sz [])) v):v= .slice none 0 0:=by have:=h.gO;cases this;rfl
theorem fm{a:Act}{nt:Nat}: ∀(l:List Nat){ι:yv}{s:St},Inv w a s ι Im nt->
  ∃ι',Inv w a (ku l s) ι' Im nt/\vj w s.heap ι Im w (ku l s).heap ι' Im
 |[],ι,s,h=>⟨ι,h,G! _ _ _ _⟩
 |t::r,ι,s,h=>by simp only[ku];split;(rename_i sz ht;obtain⟨h1,e1⟩:=q03 h.heap h.nx;have hv:a.tmps.getD t undef= .slice none 0 0:=YZ (ht ▸ h.env t);have hinv:Inv w a { env:=setEnv s.env t (.row s.nx 0 0 0),heap:=k_ s.heap s.nx (.row true 0 []),nx:=s.nx+1 } (kl ι s.nx ⟨0,0,[]⟩) Im nt:=by refine⟨h1,fun t' =>?_,fun β b hb=>?_,h.size,h.defers⟩;simp only[V6];split;rename_i e;subst e;rw[hv];exact YY (by simp[c!]) _;exact(h.env t').mono h.heap e1;simp only[c!]at hb;split at hb;rename_i e;subst e;exact O_ _;have:=h.nx β b hb;exact M_ this);obtain⟨ι',h2,e2⟩:=fm r hinv;exact⟨ι',h2,e1.trans e2⟩;exact fm r h
theorem nf{a:Act}{nt:Nat}: ∀(l:List (Nat×Nat)){ι:yv}{s:St},Inv w a s ι Im nt->
  ∃ι',Inv w a (xl l s) ι' Im nt/\vj w s.heap ι Im w (xl l s).heap ι' Im
 |[],ι,s,h=>⟨ι,h,G! _ _ _ _⟩
 |(t,k)::r,ι,s,h=>by
  simp only[xl];split;rotate_left;exact nf r h;rename_i β o ht;split;rotate_left;exact nf r h;rename_i c hb;split;rotate_left;exact nf r h;(rename_i sz hc;obtain⟨h1,e1⟩:=q03 h.heap h.nx;have hβ:β≠s.nx:=fun e=>by have:=h.nx β _ hb;omega);have Hd:(k_ s.heap s.nx (.row true 0 [])).get β=some (.box c):=by simp[c!,hβ,hb]
  obtain⟨h2,e2⟩:=zf.put (JZ:=noO Hd rfl) (w' :=w) h1 β (.box (c.set (o+k) (.row s.nx 0 0 0))) (kl ι s.nx ⟨0,0,[]⟩ β) (fun x hx=>by rw[Hd]at hx;cases hx;rfl) ⟨ju _,rfl,rfl⟩ (fun _ _ _=>rfl)
   (fun _=> .inr ⟨_,Hd,rfl,rfl⟩) (fun he=>by
    obtain⟨vs,elem,fz,q1,q2,q3,q4,q5⟩:=h1.box Hd
    refine⟨vs,elem,fz,by simpa using q1,q2,by simpa using q3,fun x hx=>?_,fun i x v hx hv=>?_⟩
    ·rcases List.mem_or_eq_of_mem_set hx with hx|rfl
     ·exact q4 x hx
     rfl
    rw[List.getElem?_set]at hx
    split at hx
    ·rename_i e
     subst e
     split at hx<;>cases hx
     have:=q5 (o+k) _ v hc hv
     rw[YZ this]
     refine YY ?_ _
     simp[c!,c_ hβ]
    exact(q5 i x v hx hv).mono h1 he)
  (have hinv:Inv w a { env:=s.env,heap:=k_ (k_ s.heap s.nx (.row true 0 [])) β (.box (c.set (o+k) (.row s.nx 0 0 0))),nx:=s.nx+1 } (kl (kl ι s.nx ⟨0,0,[]⟩) β (kl ι s.nx ⟨0,0,[]⟩ β)) Im nt:=by refine⟨h2,fun t' =>(h.env t').mono h.heap (e1.trans e2),fun γ b hγ=>?_,h.size,h.defers⟩;simp only[c!]at hγ;split at hγ;rename_i e;subst e;have:=h.nx γ _ hb;exact M_ this;split at hγ;rename_i e;subst e;exact O_ _;have:=h.nx γ b hγ;exact M_ this);obtain⟨ι',h3,e3⟩:=nf r hinv;exact⟨ι',h3,(e1.trans e2).trans e3⟩
theorem Ol{a:Act}{nt:Nat}{s:St}(sp:py)(h:Inv w a s ι Im nt):
  ∃ι' kh,Inv w a (enter sp s) ι' kh nt/\vj w s.heap ι Im w (enter sp s).heap ι' kh:=by unfold enter;obtain⟨ι1,h1,e1⟩:=fm sp.ku h;obtain⟨ι2,h2,e2⟩:=nf sp.xl h1;obtain⟨Im3,h3,e3⟩:=tH (di (xl sp.xl (ku sp.ku s)).env (xl sp.xl (ku sp.ku s)).heap sp.freeze) h2;exact⟨ι2,Im3,dD h3 sp.Hr,(e1.trans e2).trans e3⟩
theorem lg.Hp{k k' :Nat}{w w' :World}{H H' :qp}{ι ι' :yv}{Im kh:Nat->Prop}(h:lg k w H ι Im w' H' ι' kh)(hk:k' <=k):lg k' w H ι Im w' H' ι' kh:=
 ⟨fun β b h1 h2=>h.comp β b o? h2,h.im,h.pX,h.nS,h.kR,h.size,h.io⟩
theorem QQ.Hp[xn]{k k' :Nat}{w:World}{H:qp}{ι:yv}{Im:Nat->Prop}{nt:Nat}{s:St}{a:Act}{w' :World}(h:QQ k w H ι Im nt s a w')(hk:k' <=k):QQ k' w H ι Im nt s a w' :=
 let⟨ι',kh,h1,h2⟩:=h
 ⟨ι',kh,h1,h2.Hp hk⟩
theorem DL{a:Act}{nt:Nat}{s s1:St}(sp:py)(h:Inv w a s ι Im nt)(hr:ej sp s=some s1):
  ∃ι' kh,Inv w a s1 ι' kh nt/\lg (s1.nx-sp.off) w s.heap ι Im w s1.heap ι' kh/\(∀ β b,s.heap.get β=some b->β<s1.nx-sp.off):=by
 obtain⟨ι1,iX,h1,e1⟩:=Ol sp h;have plain:s1=enter sp s->sp.off=0-> ∃ι' kh,Inv w a s1 ι' kh nt/\lg (s1.nx-sp.off) w s.heap ι Im w s1.heap ι' kh/\(∀ β b,s.heap.get β=some b->β<s1.nx-sp.off):=by rintro rfl h0;refine⟨ι1,iX,h1,e1.toK _,fun β b hb=>?_⟩;obtain⟨b',q1,_⟩:=e1.comp β b hb;have:=h1.nx β b' q1;omega
 unfold ej at hr;split at hr;rename_i hg;cases hr;exact plain rfl (by simp[q1c,hg]);rename_i hg;have oX:sp.off=sp.own:=by simp[q1c,hg]
 split at hr;rename_i h0;cases hr;exact plain rfl o?;rename_i k h0;split at hr;rotate_left;cases hr;rename_i s2 Fj;split at hr<;>cases hr;rename_i hn;obtain⟨ι2,h2,e2⟩:=KU h1 sp.Hr s.nx Fj;have:s1.nx-sp.off=s.nx:=o?;rw[this];exact⟨ι2,iX,h2,(e1.toK _).trans e2,h.nx⟩
theorem IK{a:Act}{nt:Nat}{s0 s s' :St}{w0:World}{ι0:yv}{Qm:Nat->Prop}(sp:py)(h:Inv w a s ι Im nt)
  (Gw: ∀β b,s0.heap.get β=some b->β<s0.nx) (he:vj w0 s0.heap ι0 Qm w s.heap ι Im) (hr:again sp s0.nx s=some s'):
  ∃ι',Inv w a s' ι' Im nt/\lg (s0.nx-sp.off) w0 s0.heap ι0 Qm w s'.heap ι' Im/\s0.nx-sp.off<=s'.nx-sp.off:=by
 unfold again at hr;split at hr;rename_i hg;unfold ZS at hr;split at hr<;>cases hr;rename_i hn;obtain⟨ι1,h1,e1⟩:=fm sp.ku h;obtain⟨ι2,h2,e2⟩:=nf sp.xl h1;exact⟨ι2,dD h2 sp.Hr,((he.trans e1).trans e2).toK _,Nat.sub_le_sub_right hn _⟩;rename_i hg;have oX:sp.off=sp.own:=by simp[q1c,hg]
 split at hr;rename_i h0;obtain⟨h2,e2⟩:=YW h Gw he _ hr;refine⟨ι,h2,e2.toK _, ?_⟩;unfold narrow at hr;simp only at hr;split at hr<;>cases hr;exact ju _;rename_i k h0;split at hr;rotate_left;cases hr;rename_i s2 Fj;split at hr<;>cases hr;rename_i hn;obtain⟨ι1,h1,e1⟩:=fm sp.ku h;obtain⟨ι2,h2,e2⟩:=nf sp.xl h1;obtain⟨ι3,h3,e3⟩:=KU h2 sp.Hr _ Fj;rw[oX,h0];exact⟨ι3,h3,(((he.trans e1).trans e2).toK _).trans e3,o?⟩
theorem Ww{a:Act}{nt:Nat}{s0 s s' :St}{w0:World}{ι0:yv}{Qm:Nat->Prop}(sp:py)(h:Inv w a s ι Im nt)
  (Gw: ∀β b,s0.heap.get β=some b->β<s0.nx) (he:vj w0 s0.heap ι0 Qm w s.heap ι Im) (hr:leave sp s0.nx s=some s'):
  ∃ι',Inv w a s' ι' Im nt/\lg (s0.nx-sp.off) w0 s0.heap ι0 Qm w s'.heap ι' Im:=by
 unfold leave at hr;split at hr;cases hr;exact⟨ι,dD h sp.out,he.toK _⟩;rename_i hg;have oX:sp.off=sp.own:=by simp[q1c,hg]
 split at hr;cases hr;obtain⟨h2,e2⟩:=ND h Gw he sp.out;exact⟨ι,h2,e2.toK _⟩;rename_i k h0;obtain⟨ι3,h3,e3⟩:=KU h sp.out _ hr;rw[oX,h0];exact⟨ι3,h3,(he.toK _).trans e3⟩
theorem XO{ex ex' :Ex}{o:Option St}{s:St}(h:left ex o=some (ex',s)):o=some s/\ex' =ex:=by unfold left at h;split at h<;>cases h;exact⟨rfl,rfl⟩
end
section
variable [xn] {P:Program} {w:World} {H:qp} {ι:yv} {Im:Nat->Prop}
theorem RA.ext{H' :qp}(h: ∀γ,H'.get γ=H.get γ){x:AV}{v:Value}(hx:RA w H ι Im x v):RA w H' ι Im x v:=
 iJ hx fun β _ b hb=>by rw[h];exact hb
theorem zf.ext{H' :qp}(h: ∀γ,H'.get γ=H.get γ)(hi:zf w H ι Im):zf w H' ι Im where
 N0:=hi.N0
 VS:=hi.VS
 ru:=fun β b hb=>by rw[h]at hb;have h0:=hi.ru β b hb;cases b with|box c=>obtain⟨vs,elem,fz,q1,q2,q3,q4,q5⟩:=h0;exact⟨vs,elem,fz,q1,q2,q3,q4,fun i x v a b=>(q5 i x v a b).ext h⟩|row qw sz es=>cases qw<;>exact h0|map es zN=>exact h0|mr sz es=>obtain⟨vs,elem,fz,q1,q2,q3,q4,q5,q6,q7,q8⟩:=h0;exact⟨vs,elem,fz,q1,q2,q3,q4,q5,q6,q7,fun i e j x a b=>(q8 i e j x a b).imp fun v k=>⟨k.1,k.2.ext h⟩⟩|kj qw ds es l4=>(cases qw with|true=>exact h0|false=>obtain⟨vs,elem,fz,q1,q2,q3,q4,q5,q6,q7,q8,q9⟩:=h0;refine⟨vs,elem,fz,q1,q2,q3,q4,q5,q6,q7,q8,fun i p k a b=>?_⟩;obtain⟨v,k1,k2,k3⟩:=q9 i p k a b;exact⟨v,k1,k2,fun γ' xm hf=>⟨(k3 γ' xm hf).1,(k3 γ' xm hf).2.ext h⟩⟩)|xH=>trivial
 inj:=fun β β' b b' z h1 h2=>hi.inj β β' b b' z (by rw[<- h];exact h1) (by rw[<- h];exact h2)
 im:=hi.im
 Vt:=fun β b z hb=>hi.Vt β b z (by rw[<- h];exact hb)
theorem vj.ext{w0:World}{H0 H' :qp}{ι0:yv}{Qm:Nat->Prop}(h: ∀γ,H'.get γ=H.get γ)(he:vj w0 H0 ι0 Qm w H ι Im):vj w0 H0 ι0 Qm w H' ι Im where
 comp:=fun β b hb=>by obtain⟨b',q1,q2⟩:=he.comp β b hb;exact⟨b',by rw[h];exact q1,q2⟩
 im:=he.im
 pX:=he.pX
 nS:=fun β x z hx=>he.nS β x z (by rw[<- h];exact hx)
 kR:=he.kR
 size:=he.size
 io:=he.io
structure At (G:GP) (O:xt) (all:List Oper) (tm:Bool) (os:List Oper) (cs:List Rc) (i:Nat) (s:St) (j:Nat) (o:Oper) (c:Rc):Prop where
 env:c.E=tX os cs i (fun k=>decide (k<i+j)) s.env
 heap:c.H=wL cs i (fun k=>decide (k<i+j)) s.heap
 guard:yF all o c.E=some c.on
 on:c.on=true->(∃ wf,mz G O o.op c.E c.H c.nx=some (c.v,wf,c.fj)/\c.ws=eG tm c.rd c.H wf)/\c.rd=tw o.op c.E c.H
 off:c.on=false->c.v= .xW []/\c.ws=[]/\c.fj=c.nx/\c.rd=[]
 nx:s.nx<=c.nx
 bd: ∀β b,c.H.get β=some b->β<c.nx
 fj:c.nx<=c.fj
 keys:(∀ x∈c.keys,x<c.fj)/\ ∀γ,c.nx<=γ->γ<c.fj->γ∈c.keys
theorem TP: ∀(ws:List (Nat×qJ)){H:qp}{γ:Nat}{b:qJ},(za ws H).get γ=some b->γ∈ws.map (·.1)\/H.get γ=some b
 |ws,H,γ,b,h=>by by_cases hr:γ∈ws.map (·.1);exact .inl hr;have jZ: ∀x∈ws,x.1≠γ:=fun x hx e=>hr (by rw[<- e];exact G?.2 ⟨x,hx,rfl⟩);rw[k9 ws _ γ jZ]at h;exact .inr h
theorem KV{G:GP}{O:xt}{all:List Oper}{tm:Bool}{o:Oper}{r:List Oper}{c:Rc}{cs:List Rc}{s s' :St}(h:nO G O all tm (o::r) (c::cs) s s')(hb: ∀β b,s.heap.get β=some b->β<s.nx):
  s.nx<=c.fj/\(∀ x∈c.keys,x<c.fj)/\(∀ γ,s.nx<=γ->γ<c.fj->γ∈c.keys)/\ ∀β b,(za c.ws s.heap).get β=some b->β<c.fj:=by
 obtain⟨_,_,_,_,h5,h6,_⟩:=h;have key:s.nx<=c.fj/\(∀ x∈c.ws,x.1<c.fj)/\ ∀γ,s.nx<=γ->γ<c.fj->γ∈c.ws.map (·.1):=by cases Fg:c.on with|true=>obtain⟨⟨wf,h8,h9⟩,_⟩:=h5 Fg;obtain⟨g1,g2,g3⟩:=IM h8 hb;rw[h9];refine⟨g1,fun x hx=>g2 x (RN hx),fun γ a b=>?_⟩;rcases RL (tm:=tm) (rd:=c.rd) (H:=s.heap) (g3 γ a b)with h|⟨b',h⟩;exact h;have:=hb γ b' h;omega|false=>obtain⟨_,e2,e3,_⟩:=h6 Fg;rw[e2,e3];exact⟨ju _,z?,fun γ a b=>o?⟩
 obtain⟨k1,k2,k3⟩:=key;refine⟨k1,fun x hx=>?_,k3,fun β b hβ=>?_⟩;obtain⟨y,hy,rfl⟩:=G?.1 hx;exact k2 y hy;rcases TP _ hβ with h|h;obtain⟨y,hy,rfl⟩:=G?.1 h;exact k2 y hy;have:=hb β b h;omega
theorem ZD{G:GP}{O:xt}{all:List Oper}{tm:Bool}: ∀{os:List Oper}{cs:List Rc}{s s' :St},nO G O all tm os cs s s' ->(∀ β b,s.heap.get β=some b->β<s.nx)-> ∀(i j:Nat)(o:Oper)(c:Rc),os[j]? =some o->cs[j]? =some c->
  At G O all tm os cs i s j o c
 |[],_,_,_,_,_,_,_,_,_,ho,_=>by simp at ho
 |_::_,[],_,_,h,_,_,_,_,_,_,_=>h.elim
 |o' ::os,c' ::cs,s,s',h,hb,i,j,o,c,ho,hc=>by obtain⟨k1,k2,k3,k4⟩:=KV h hb;obtain⟨h1,h2,h3,h4,h5,h6,h7⟩:=h;cases j with|zero=>simp only[a?,wd]at ho hc;subst ho hc;refine⟨?_, ?_,by rw[h1];exact h4,by rw[h1,h2,h3];exact h5,by rw[h3];exact h6,by rw[h3];exact ju _,by rw[h2,h3];exact hb,by rw[h3];exact k1,k2,by rw[h3];exact k3⟩;rw[oc _ _ _ _ _ fun k hk=>by simpa using hk,h1];rw[mD _ _ _ _ fun k hk=>by simpa using hk,h2]|succ j=>(simp only[i?]at ho hc;have:=ZD h7 k4 (i+1) j o c ho hc;have e:(fun k=>decide (k<i+(j+1)))=fun k=>decide (k<i+1+j):=by funext k;rw[show i+(j+1)=i+1+j from o?]);refine⟨?_, ?_,this.guard,this.on,this.off,p! k1 this.nx,this.bd,this.fj,this.keys⟩;rw[this.env,e];simp only[tX];rw[if_pos v?];rw[this.heap,e];simp only[wL];rw[if_pos v?]
theorem XB{G:GP}{O:xt}{all:List Oper}{tm:Bool}: ∀{os:List Oper}{cs:List Rc}{s s' :St},nO G O all tm os cs s s' ->(∀ β b,s.heap.get β=some b->β<s.nx)-> ∀(i:Nat),
  s'.env=tX os cs i (fun _=>true) s.env/\s'.heap=wL cs i (fun _=>true) s.heap/\s.nx<=s'.nx/\(∀ β b,s'.heap.get β=some b->β<s'.nx)/\
   (∀(j:Nat)(c:Rc),cs[j]? =some c->s.nx<=c.nx/\c.fj<=s'.nx)/\ ∀(a b:Nat)(ca cb:Rc),a<b->cs[a]? =some ca->cs[b]? =some cb->ca.fj<=cb.nx
 |[],[],s,s',h,hb,i=>by have h' :s' =s:=h;subst h';exact⟨rfl,rfl,ju _,hb,z?,z?⟩
 |[],_::_,_,_,h,_,_=>h.elim
 |_::_,[],_,_,h,_,_=>h.elim
 |o::os,c::cs,s,s',h,hb,i=>by obtain⟨k1,k2,k3,k4⟩:=KV h hb;obtain⟨h1,h2,h3,h4,h5,h6,h7⟩:=h;obtain⟨q1,q2,q3,q4,q5,q6⟩:=XB h7 k4 (i+1);refine⟨?_, ?_,p! k1 q3,q4,fun j c' Gt=>?_,fun a b ca cb eH ha jD=>?_⟩;rw[q1];simp[tX];rw[q2];simp[wL];(cases j with|zero=>simp only[a?,wd]at Gt;subst Gt;exact⟨by rw[h3];exact ju _,q3⟩|succ j=>simp only[i?]at Gt;obtain⟨r1,r2⟩:=q5 j c' Gt;simp only at r1;exact⟨p! k1 r1,r2⟩);cases b with|zero=>omega|succ b=>simp only[i?]at jD;cases a with|zero=>simp only[a?,wd]at ha;subst ha;exact(q5 b cb jD).1|succ a=>simp only[i?]at ha;exact q6 a b ca cb o? ha jD
def Db(nt:Nat)(os:List Oper)(cs:List Rc)(s:St)(w0:World)(ι0:yv)(Qm:Nat->Prop)(D:Nat->Bool)(a:Act)(w:World):Prop:=
 ∃ι Im,zf w (wL cs 0 D s.heap) ι Im/\(∀ t,RA w (wL cs 0 D s.heap) ι Im ((tX os cs 0 D s.env).get t) (a.tmps.getD t undef))/\nt<=a.tmps.size/\a.defers=[]/\
  vj w0 s.heap ι0 Qm w (wL cs 0 D s.heap) ι Im
def sC(D:Nat->Bool)(j:Nat):Nat->Bool:=fun k=>decide (k=j) || D k
theorem Lv{ops:Array Oper}{o:Oper}{E E' :yu}(h: ∀t∈o.looksAt ops,E'.get t=E.get t):(∀ x∈o.op.operands,ev E' x=ev E x)/\yF ops.toList o E' =yF ops.toList o E:=by constructor;(intro x hx;cases x with|tmp t=>refine h t ?_;unfold Oper.looksAt;refine List.mem_append_left _ (List.mem_filterMap.2 ⟨.tmp t,by simpa using hx,rfl⟩)|_=>rfl);unfold yF;cases hg:o.guard with|none=>rfl|some g=>obtain⟨j,want⟩:=g;simp only;cases hj:ops.toList[j]? with|none=>rfl|some oj=>simp only;cases hd:oj.dst with|none=>rfl|some d=>(simp only;rw[h d];unfold Oper.looksAt;refine List.mem_append_right _ ?_;rw[hg];have:ops[j]? =some oj:=by rw[<- H?];exact hj);simp[this,hd]
theorem step_ok{G:GP}{O:xt}(hG:yE P G)(hO:SoundCall P O){nt:Nat}{ops:Array Oper}(hd:Ys nt ops.toList)(hdr:XC ops.toList=true){cs:List Rc}{s s' :St}{tm:Bool}
  (VT:nO G O ops.toList tm ops.toList cs s s') (F5: ∀β b,s.heap.get β=some b->β<s.nx) (Xi:mC (wR [] ops.toList) (YQ 0 cs [])=true)
  {w0:World} {ι0:yv} {Qm:Nat->Prop} {D:Nat->Bool} (hD:Pe ops.toList D) {j:Nat} {o:Oper} (ho:ops.toList[j]? =some o) (hj:D j=false)
  (VZ: ∀e∈o.after,Region.binds .any e=true->D e.on=true) {a:Act} {w:World} (h:Db nt ops.toList cs s w0 ι0 Qm D a w) (Q:Exit->Act->World->Prop):
  wpOp P ops Q j (Db nt ops.toList cs s w0 ι0 Qm (sC D j)) a w:=by
 simp only[XC,zU]at hdr;obtain⟨hfwd,PY⟩:=hdr;have hlen:=VT.len;have N5:j<cs.length:=by rw[hlen];exact(qL ho).1
 obtain⟨c,hc⟩: ∃c,cs[j]? =some c:=⟨_,wK N5⟩;have F4:=ZD VT F5 0 j o c ho hc;obtain⟨_,_,_,_,hnxs,hnxp⟩:=XB VT F5 0;have OT:=(YR cs 0 [] Xi).2;have ahead: ∀i,ordered (wR [] ops.toList) i j=true->D i=true:=lu hfwd hD j o ho VZ;have behind: ∀k,k<ops.toList.length->ordered (wR [] ops.toList) j k=true->D k=false:=fun k hk Vr=>by cases MN:D k with|false=>rfl|true=>have:=lu hfwd hD k ops.toList[k] (wK hk) (fun e he hb=>hD k _ (wK hk) MN e he hb) j Vr;rw[hj]at this;cases this
 have harr:ops.toList.toArray=ops:=z?;have hlook: ∀t∈o.looksAt ops,(tX ops.toList cs 0 D s.env).get t=c.E.get t:=by intro t ht;rw[F4.env];refine cC _ _ _ _ _ (fun k ok hk hdk=>?_) rfl;simp only[O?];have pd:=(qL hk).1;rcases b_ k j with xS|rfl|MP;rw[decide_eq_true xS];rcases apart_spec PY xS hk ho with h1|h1;exact ahead k h1;rw[harr]at h1;exact absurd ht ((Oper.apart_spec h1).1 t hdk);simpa using hj;rw[decide_eq_false o?];rcases apart_spec PY MP ho hk with h1|h1;exact behind k pd h1;rw[harr]at h1;exact absurd ht ((Oper.apart_spec h1).2.2 t hdk)
 obtain⟨hevs,hguard⟩:=Lv hlook;obtain⟨ι,Im,hi,JW,ml,N3,hevo⟩:=h;have T2: ∀(k:Nat)(ck:Rc),cs[k]? =some ck->D k=true->j<k->c.on=true->ck.on=true->In c ck:=fun k ck hk MN Vr h1 h2=>by rcases(OT k ck hk h2).2 j c Vr hc h1 with h3|h3;simp only[O?]at h3;have:=behind k (by rw[<- hlen];exact(qL hk).1) h3;rw[MN]at this;cases this;exact h3
 have OD: ∀(k:Nat)(ck:Rc),cs[k]? =some ck->D k=false->k<j->c.on=true->ck.on=true->In ck c:=fun k ck hk MN Vr h1 h2=>by rcases(OT j c hc h1).2 k ck Vr hk h2 with h3|h3;simp only[O?]at h3;rw[ahead k h3]at MN;cases MN;exact h3
 have ZO: ∀(k:Nat)(ck:Rc),cs[k]? =some ck->ck.on=false->ck.keys=[]:=fun k ck hk oX=>by (have pd:k<ops.toList.length:=by rw[<- hlen];exact(qL hk).1);have:=(ZD VT F5 0 k _ ck (wK pd) hk).off oX;unfold Rc.keys;rw[this.2.1];rfl
 have henv' : ∀t,(tX ops.toList cs 0 (sC D j) s.env).get t=(fp o.dst c.v (tX ops.toList cs 0 D s.env)).get t:=by intro t;rw[fq];by_cases hdt:o.dst=some t;rw[if_pos hdt];refine W3 _ _ _ _ j o c ho hc hdt (by simp[sC]) fun k ok hk dx hdk=>?_;simp only[O?,sC];rw[decide_eq_false o?,q14];rcases apart_spec PY hk ho dx with h1|h1;exact behind k (qL dx).1 h1;rw[harr]at h1;exact absurd hdk ((Oper.apart_spec h1).2.1 t hdt);(rw[if_neg hdt];refine cC _ _ _ _ _ (fun k ok hk hdk=>?_) rfl;simp only[O?,sC];have:k≠j:=fun e=>by subst e;rw[ho]at hk;cases hk;exact hdt hdk);simp[this]
 have OJ: ∀γ,(wL cs 0 (sC D j) s.heap).get γ=(za c.ws (wL cs 0 D s.heap)).get γ:=by intro γ;by_cases hk:γ∈c.keys;(refine Jo cs 0 s.heap j c hc hk (by simp[sC]) (fun k ck Vr N1 JX=>?_) _;simp only[O?,sC];rw[decide_eq_false o?,q14];cases MN:D k with|false=>rfl|true=>(exfalso;have Fg:c.on=true:=by cases h1:c.on with|true=>rfl|false=>rw[ZO j c hc h1]at hk;simp at hk);(have Fh:ck.on=true:=by cases h1:ck.on with|true=>rfl|false=>rw[ZO k ck N1 h1]at JX;simp at JX);exact(T2 k ck N1 MN Vr Fg Fh).2.1 γ hk JX);(have jZ: ∀x∈c.ws,x.1≠γ:=fun x hx e=>hk (by rw[<- e];exact G?.2 ⟨x,hx,rfl⟩);rw[k9 _ _ _ jZ];refine pa _ _ _ _ (fun k ck N1 JX=>?_) rfl;simp only[O?,sC];have:k≠j:=fun e=>by subst e;rw[hc]at N1;cases N1;exact hk JX);simp[this]
 have ho' :ops[j]? =some o:=by rw[<- H?];exact ho
 have hdo: ∀t,o.dst=some t->t<nt:=hd o (zc ho);unfold wpOp;rw[ho'];simp only;have hgd:yF ops.toList o (tX ops.toList cs 0 D s.env)=some c.on:=by rw[hguard];exact F4.guard
 rw[Wf JW hgd];cases Fg:c.on with|false=>(rw[if_neg z?];obtain⟨e1,e2,e3,e4⟩:=F4.off Fg;have hh: ∀γ,(wL cs 0 (sC D j) s.heap).get γ=(wL cs 0 D s.heap).get γ:=fun γ=>by rw[OJ γ,e2];rfl);refine⟨ι,Im,hi.ext hh,fun t=>?_,by rw[q1k];exact ml,by rw[K'];exact N3,hevo.ext hh⟩;rw[henv' t,e1];exact(Kf JW ml hdo NY t).ext hh|true=>(rw[if_pos rfl];refine .inl ?_;obtain⟨⟨wf,e1,e1'⟩,e2⟩:=F4.on Fg;have hag:xR (tw o.op c.E c.H) c.H (wL cs 0 D s.heap):=by (intro γ hγ;rw[F4.heap];refine pa _ _ _ _ (fun k ck N1 JX=>?_) rfl;simp only[O?];have Fh:ck.on=true:=by cases h1:ck.on with|true=>rfl|false=>rw[ZO k ck N1 h1]at JX;simp at JX);rcases b_ k j with xS|rfl|MP;(rw[decide_eq_true xS];cases MN:D k with|true=>rfl|false=>exact absurd (e2 ▸ hγ) ((OD k ck N1 MN xS Fg Fh).1 γ JX));simpa using hj;rw[decide_eq_false o?];cases MN:D k with|false=>rfl|true=>exact absurd JX ((T2 k ck N1 MN MP Fg Fh).2.2 γ (e2 ▸ hγ)));(have ZP:mz G O o.op (tX ops.toList cs 0 D s.env) (wL cs 0 D s.heap) c.nx=some (c.v,wf,c.fj):=by rw[Dp hevs hag];exact e1);(have T0: ∀γ,(wL cs 0 (sC D j) s.heap).get γ=(za wf (wL cs 0 D s.heap)).get γ:=fun γ=>by rw[OJ γ,e1'];exact RM (by rw[e2];exact hag) γ);(have hX:Bd (fun γ=>c.fj<=γ) (wL cs 0 D s.heap) c.nx:=by intro β b hb;by_cases h1:β<c.nx;exact .inl h1;by_cases h2:c.fj<=β;exact .inr h2;(exfalso;have dm:β∈c.keys:=F4.keys.2 β o? o?;have YG:(wL cs 0 D s.heap).get β=s.heap.get β:=by rw[pa (D' :=fun _=>false) cs 0 s.heap s.heap (fun k ck N1 JX=>?_) rfl,mD _ _ _ _ fun _ _=>rfl];simp only[O?];cases MN:D k with|false=>rfl|true=>(exfalso;have pd:k<ops.toList.length:=by rw[<- hlen];exact(qL N1).1);(have hatk:=ZD VT F5 0 k _ ck (wK pd) N1;have Fh:ck.on=true:=by cases h1:ck.on with|true=>rfl|false=>rw[ZO k ck N1 h1]at JX;simp at JX);rcases b_ k j with xS|rfl|MP;have h3:=hatk.keys.1 β JX;have h4:=hnxp k j ck c xS N1 hc;omega;rw[hj]at MN;cases MN;exact(T2 k ck N1 MN MP Fg Fh).2.1 β dm JX);rw[YG]at hb;have h3:=F5 β b hb;have h4:=F4.nx;omega);refine opX_ok hG hO hi JW hX o ZP (fun γ h=>h) _ Q fun u w' ι' kh q1 q2 q3 q4=>?_;refine⟨ι',kh,q1.ext T0,fun t=>?_,by rw[q1k];exact ml,by rw[K'];exact N3,(hevo.trans q2).ext T0⟩;rw[henv' t];exact(Kf (fun t=>(JW t).mono hi q2) ml hdo q3 t).ext T0
theorem Jg{p p' :Nat->Bool}{j:Nat}: ∀(l:List Nat),(∀ x,p' x=true->p x=true)->j∈l->p j=true->p' j=false->(l.filter p').length<(l.filter p).length
 |[],_,hj,_,_=>by simp at hj
 |x::r,hp,hj,h1,h2=>by (have hle: ∀(l:List Nat),(l.filter p').length<=(l.filter p).length:=by intro l;induction l with|nil=>simp|cons y r ih=>simp only[F!];cases h:p' y with|true=>rw[hp y h];simp;exact ih|false=>cases p y<;>simp<;>omega);simp only[F!];rcases U?.1 hj with rfl|hj;rw[h1,h2];have:=hle r;simp;omega;have ih:=Jg r hp hj h1 h2;cases h:p' x with|true=>rw[hp x h];simp;exact ih|false=>cases p x<;>simp<;>omega
theorem any_ok{G:GP}{O:xt}(hG:yE P G)(hO:SoundCall P O){nt:Nat}{ops:Array Oper}(hd:Ys nt ops.toList)(hdr:XC ops.toList=true){cs:List Rc}{s s' :St}{tm:Bool}
  (VT:nO G O ops.toList tm ops.toList cs s s') (F5: ∀β b,s.heap.get β=some b->β<s.nx) (Xi:mC (wR [] ops.toList) (YQ 0 cs [])=true)
  {w0:World} {ι0:yv} {Qm:Nat->Prop} (Q:Exit->Act->World->Prop) (hq: ∀a w,Db nt ops.toList cs s w0 ι0 Qm (fun _=>true) a w->Q .normal a w):
  ∀(fuel:Nat)(um:Array Bool)(a:Act)(w:World),um.size=ops.size->Pe ops.toList (fun k=>um.getD k false)->
   ((F? ops.size).filter fun k=> !um.getD k false).length<=fuel->Db nt ops.toList cs s w0 ι0 Qm (fun k=>um.getD k false) a w->wpAny P .any ops Q fuel um a w:=by
 have hfull: ∀(D:Nat->Bool)(a:Act)(w:World),(∀ k,k<ops.size->D k=true)->Db nt ops.toList cs s w0 ι0 Qm D a w->Db nt ops.toList cs s w0 ι0 Qm (fun _=>true) a w:=by
  intro D a w hD ⟨ι,Im,h1,h2,h3,h4,h5⟩;have hh: ∀γ,(wL cs 0 (fun _=>true) s.heap).get γ=(wL cs 0 D s.heap).get γ:=fun γ=>
   pa _ _ _ _ (fun k ck N1 _=>by
    have:k<ops.size:=by have:=VT.len;have:=(qL N1).1;simp at *; omega
    simp[hD k this]) rfl
  refine⟨ι,Im,h1.ext hh,fun t=>?_,h3,h4,h5.ext hh⟩;rw[cC (D' :=D) _ _ _ _ s.env (fun k ok dx _=>by
    have:k<ops.size:=by have:=(qL dx).1;simpa using this
    simp[hD k this]) rfl]
  exact(h2 t).ext hh
 intro fuel;induction fuel with|zero=>((intro um a w ml hcld hf h;have OA: ∀k,k<ops.size->um.getD k false=true:=by intro k hk;have h0:((F? ops.size).filter fun k=> !um.getD k false)=[]:=List.length_eq_zero_iff.1 o?;have:=List.filter_eq_nil_iff.1 h0 k (by simpa using hk);simpa using this);refine⟨?_,hq a w (hfull _ a w OA h)⟩;cases hr:Region.ready .any ops um with|nil=>rfl|cons i r=>(exfalso;have hi:i∈Region.ready .any ops um:=by rw[hr];simp);obtain⟨h1,o,ho,_⟩:=mem_ready.1 hi;have xS:i<ops.size:=(M!.1 ho).1;have h2:=OA i xS;simp[ml,xS]at h1 h2;rw[h1]at h2;cases h2)|succ fuel ih=>intro um a w ml hcld hf h;refine⟨fun hr=>?_,fun i hi=>?_⟩;(refine hq a w (hfull _ a w ?_ h);intro k;induction k using r? with|_ k Gx=>intro hk;cases hD:um.getD k false with|true=>rfl|false=>(exfalso;have pd:k<ops.toList.length:=by simpa using hk);(have sI:k∈Region.ready .any ops um:=by refine mem_ready.2 ⟨?_,ops[k],by simp[hk],fun e he hb=>?_⟩;simp[ml,hk]at hD |-;exact hD;have xS:=BX (by simp only[XC,zU]at hdr;exact hdr.1) (wK pd) (by simpa using he) hb;exact Gx e.on xS o?);rw[hr]at sI;simp at sI);(obtain⟨h1,o,ho,h2⟩:=mem_ready.1 hi;have xS:i<ops.size:=(M!.1 ho).1;have ho' :ops.toList[i]? =some o:=by rw[H?];exact ho);(have hDi:um.getD i false=false:=by simp[ml,xS]at h1 |-;exact h1);(have pf:(fun k=>(um.setIfInBounds i true).getD k false)=sC (fun k=>um.getD k false) i:=by funext k;simp only[sC];by_cases hk:k=i;subst hk;simp[ml,xS];simp[hk,Array.getElem?_setIfInBounds_ne (c_ hk)]);refine wpOp_mono (fun a' w' h' =>?_) (step_ok hG hO hd hdr VT F5 Xi hcld ho' hDi h2 h Q);refine ih (um.setIfInBounds i true) a' w' (by simpa using ml) ?_ ?_ (by rw[pf];exact h');rw[pf];intro j oj hoj hDj e he hb;simp only[sC,j!,decide_eq_true_eq]at hDj |-;rcases hDj with rfl|hDj;rw[ho']at hoj;cases hoj;exact .inr (h2 e he hb);exact .inr (hcld j oj hoj hDj e he hb);have:=Jg (p:=fun k=> !um.getD k false) (p' :=fun k=> !(um.setIfInBounds i true).getD k false) (j:=i) (F? ops.size) (fun x hx=>?_) (by simpa using xS) (by simpa using hDi) ?_;omega;have ZR:(um.setIfInBounds i true).getD x false=sC (fun k=>um.getD k false) i x:=congrFun pf x;rw[ZR]at hx;simp only[sC,O!,Bool.or_eq_false_iff]at hx;simp only[hx.2,Bool.not_false];have ZR:(um.setIfInBounds i true).getD i false=sC (fun k=>um.getD k false) i i:=congrFun pf i;rw[ZR];simp[sC]
theorem Rg{G:GP}{O:xt}(hm:P.follows .mixedOrders=true)(hG:yE P G)(hO:SoundCall P O){nt:Nat}(id:Nat)(ops:Array Oper)(hd:Ys nt ops.toList)(hdr:XC ops.toList=true)
  {a:Act} {s s' :St} (h:Inv w a s ι Im nt) {tm:Bool} (hr:dX G O ops.toList tm 0 ops.toList s []=some s') (Q:Exit->Act->World->Prop)
  (hq: ∀a' w',aD w s.heap ι Im nt s' a' w' ->Q .normal a' w'):(Code.region id ops true).wp P Q a w:=by
 obtain⟨cs,VT,Xi⟩:=ln ops.toList hr;obtain⟨q1,q2,q3,q4,_,_⟩:=XB VT h.nx 0;refine wp_region_any hm ?_;have PZ:({ w with drawn:=w.drawn+1 }:World).heap=w.heap:=rfl;have YG:(fun k=>(m_ ops.size false).getD k false)=fun _=>false:=by funext k;simp[Array.getElem?_replicate];split<;>rfl
 refine any_ok hG hO hd hdr VT h.nx Xi (w0:=w) (ι0:=ι) (Qm:=Im) Q (fun a' w' h' =>?_) ops.size _ a _ z? ?_ ?_ ?_;obtain⟨ι',kh,p1,p2,p3,p4,p5⟩:=h';rw[<- q2]at p1 p2 p5;rw[<- q1]at p2;exact hq a' w' ⟨ι',kh,⟨p1,p2,q4,p3,p4⟩,p5⟩;rw[YG];intro j o _ hj;cases hj;have:=List.length_filter_le (fun k=> !(m_ ops.size false).getD k false) (F? ops.size);simpa using this;rw[YG];refine⟨ι,Im, ?_,fun t=>?_,h.size,h.defers, ?_⟩;rw[mD _ _ _ _ fun _ _=>rfl];exact h.heap.bV PZ ⟨rfl,rfl⟩;rw[mD _ _ _ _ fun _ _=>rfl,oc _ _ _ _ _ fun _ _=>rfl];exact(h.env t).bV PZ ⟨rfl,rfl⟩ h.heap;rw[mD _ _ _ _ fun _ _=>rfl];exact vj.bV PZ ⟨rfl,rfl⟩
end
def yG:Code->List Nat
 | .seq a b=>yG a++yG b
 | .block id (.loop c)=>id::yG c
 | .block _ c=>yG c
 | .cond _ a b=>yG a++yG b
 | .loop c=>yG c
 |_=>[]
def oZ(id:Nat)(b:Code):Code->Prop
 | .seq x y=>oZ id b x\/oZ id b y
 | .block i (.loop c)=>(i=id/\c=b)\/oZ id b c
 | .block _ c=>oZ id b c
 | .cond _ x y=>oZ id b x\/oZ id b y
 | .loop c=>oZ id b c
 |_=>False
theorem Hw{id:Nat}{b:Code}: ∀{c:Code},oZ id b c->id∈yG c:=by
 intro c;fun_induction yG c with
 |case1 x y Z2 XL=>
  intro h;simp only[oZ]at h;simp only[p?];exact h.imp Z2 XL
 |case2 i c ih=>
  intro h;simp only[oZ]at h;rcases h with ⟨rfl,_⟩|h
  ·simp
  simp[ih h]
 |case3 i c hc ih=>
  intro h;refine ih ?_;cases c<;>first|exact absurd rfl (hc _)|exact h
 |case4 o x y Z2 XL=>
  intro h;simp only[oZ]at h;simp only[p?];exact h.imp Z2 XL
 |case5 c ih=>
  intro h;exact ih (by simpa only[oZ]using h)
 |case6 c h1 h2 h3 h4 h5=>
  intro h;cases c<;>simp_all [oZ]
theorem QI{id:Nat}: ∀{c:Code},id∉yG c->zQ c id=none:=by
 intro c;fun_induction yG c with
 |case1 x y Z2 XL=>
  intro h;simp only[p?,not_or]at h;simp[zQ,Z2 h.1,XL h.2]
 |case2 i c ih=>
  intro h;simp only[U?,not_or]at h;simp[zQ,ih h.2,c_ h.1]
 |case3 i c hc ih=>
  intro h;have:=ih h;cases c<;>first|exact absurd rfl (hc _)|exact this
 |case4 o x y Z2 XL=>
  intro h;simp only[p?,not_or]at h;simp[zQ,Z2 h.1,XL h.2]
 |case5 c ih=>
  intro h;simpa only[zQ]using ih h
 |case6 c h1 h2 h3 h4 h5=>
  intro h;cases c<;>simp_all [zQ]
theorem UW{id:Nat}{b:Code}: ∀{c:Code},(yG c).Nodup->oZ id b c->zQ c id=some b:=by
 intro c;fun_induction yG c with
 |case1 x y Z2 XL=>
  intro hn h;rw[D?]at hn;simp only[oZ]at h;simp only[zQ];rcases h with h|h
  ·rw[Z2 hn.1 h]
  have h1:id∉yG x:=fun hx=>hn.2.2 id hx id (Hw h) rfl;rw[QI h1];exact XL hn.2.1 h
 |case2 i c ih=>
  intro hn h;rw[List.nodup_cons]at hn;simp only[oZ]at h;simp only[zQ];rcases h with ⟨rfl,rfl⟩|h
  ·simp
  have:i≠id:=fun e=>hn.1 (e ▸ Hw h);rw[if_neg this];exact ih hn.2 h
 |case3 i c hc ih=>
  intro hn h;cases c<;>first|exact absurd rfl (hc _)|exact ih hn h
 |case4 o x y Z2 XL=>
  intro hn h;rw[D?]at hn;simp only[oZ]at h;simp only[zQ];rcases h with h|h
  ·rw[Z2 hn.1 h]
  have h1:id∉yG x:=fun hx=>hn.2.2 id hx id (Hw h) rfl;rw[QI h1];exact XL hn.2.1 h
 |case5 c ih=>
  intro hn h;simpa only[zQ]using ih hn (by simpa only[oZ]using h)
 |case6 c h1 h2 h3 h4 h5=>
  intro hn h;cases c<;>simp_all [oZ]
def gM(nt:Nat):Code->Bool
 | .region _ ops d=>opsOK nt ops.toList&&(!d || XC ops.toList)
 | .seq a b=>gM nt a&&gM nt b
 | .cond _ a b=>gM nt a&&gM nt b
 | .block _ c=>gM nt c
 | .loop c=>gM nt c
 |_=>true
section
variable [xn] {P:Program} {w:World} {H:qp} {ι:yv} {Im:Nat->Prop}
theorem Sf{G:GP}{O:xt}(hm:P.follows .mixedOrders=true)(hG:yE P G)(hO:Sound P G O)(f:FuncId)(fi:FI)(XG:G.fn f=some fi)(Ef:(yG fi.body).Nodup):
  ∀(c:Code),gM fi.nt c=true->(∀ id b,oZ id b c->oZ id b fi.body)-> ∀{w:World}{ι:yv}{Im:Nat->Prop}{a:Act}{s s' :St}{ex:Ex},Inv w a s ι Im fi.nt->
   exec G O f c s=some (ex,s')->c.wp P (fun e a' w' =>e=ex.BP/\aD w s.heap ι Im fi.nt s' a' w') a w:=by
 intro c;induction c with
  |skip=>intro _ _ w ι Im a s s' ex h hr;simp only[exec,wd,Prod.mk.injEq]at hr;obtain⟨rfl,rfl⟩:=hr;exact wp_skip ⟨rfl,ι,Im,h,G! _ _ _ _⟩
  |region id ops d=>intro dx _ w ι Im a s s' ex h hr;simp only[gM,zU]at dx;cases d with|false=>simp only[exec]at hr;split at hr<;>cases hr;rename_i hs;obtain⟨ι1,iX,h1,e1⟩:=Kd (G.cmd f (2*id)) h;exact Au hG hO.toSoundCall id ops (WL dx.1) h1 hs _ fun a' w' az=>⟨rfl,(az.from e1).post _⟩|true=>simp only[exec]at hr;split at hr<;>cases hr;rename_i hs;obtain⟨ι0,Qm,h0,e0⟩:=Kd (G.cmd f (2*id)) h;obtain⟨iX,h1,e1⟩:=tH (di (pN (G.cmd f (2*id)) s).env (pN (G.cmd f (2*id)) s).heap (G.pre f id)) h0;exact Rg hm hG hO.toSoundCall id ops (WL dx.1) (by simpa using dx.2) h1 hs _ fun a' w' az=>⟨rfl,(az.from (e0.trans e1)).post _⟩
  |seq x y Z2 XL=>intro dx VY w ι Im a s s' ex h hr;simp only[gM,zU]at dx;simp only[exec]at hr;refine wp_seq ?_;split at hr;rename_i s1 mF;refine wp_mono (Z2 dx.1 (fun id b ho=>VY id b (by simp only[oZ];exact .inl ho)) h mF) fun e a1 w1⟨he,ι1,iX,h1,e1⟩=>?_;subst he;refine wp_mono (XL dx.2 (fun id b ho=>VY id b (by simp only[oZ];exact .inr ho)) h1 hr) fun e a2 w2⟨he,az⟩=>⟨he,az.from e1⟩;rename_i s1 mF;cases hr;refine wp_mono (Z2 dx.1 (fun id b ho=>VY id b (by simp only[oZ];exact .inl ho)) h mF) fun e a1 w1⟨he,az⟩=>?_;subst he;exact⟨rfl,az⟩;rename_i i s1 mF;cases hr;refine wp_mono (Z2 dx.1 (fun id b ho=>VY id b (by simp only[oZ];exact .inl ho)) h mF) fun e a1 w1⟨he,az⟩=>?_;subst he;exact⟨rfl,az⟩;cases hr
  |cond o x y Z2 XL=>intro dx VY w ι Im a s s' ex h hr;simp only[gM,zU]at dx;simp only[exec]at hr;split at hr;rotate_left;cases hr;rename_i b hb;have hv:=QH h.env o;rw[hb]at hv;have hp:=hv.gO;generalize hvo:a.eval o=vo at hp;cases hp;refine wp_cond hvo ?_;cases b with|true=>exact Z2 dx.1 (fun id b ho=>VY id b (by simp only[oZ];exact .inl ho)) h hr|false=>exact XL dx.2 (fun id b ho=>VY id b (by simp only[oZ];exact .inr ho)) h hr
  |block id c ih=>
   intro dx VY w ι Im a s s' ex h hr;simp only[gM]at dx;refine wp_block ?_;by_cases hl: ∃b,c= .loop b;{obtain⟨b,rfl⟩:=hl;simp only[exec]at hr;split at hr;rotate_left;cases hr;(rename_i s1 mF;obtain⟨ι1,iX,h1,e1,xS⟩:=DL (G.spec f id) h mF;have ZN:=UW Ef (VY id b (by simp[oZ]));obtain⟨jZ,n,hwp⟩:=hO.loop f id _ ex s' hr fi b XG ZN;refine wp_mono (wp_loop_rounds n (hwp w ι1 iX a h1)) fun e a' w'⟨he,az⟩=>?_;have Oz:aD w s.heap ι Im fi.nt s' a' w' :=by obtain⟨ι2,Gs,k1,k2⟩:=az.from e1;exact⟨ι2,Gs,k1,k2.full xS⟩);cases ex with|normal=>simp only at he;subst he;simp only[Exit.inBlock,if_true];exact⟨rfl,Oz⟩|ret=>simp only at he;subst he;exact⟨rfl,Oz⟩|exit i=>simp only at he;subst he;simp only[Exit.inBlock,jZ i rfl,if_false];exact⟨rfl,Oz⟩}
   have hex:exec G O f (.block id c) s=match exec G O f c s with
    |some (.exit i,s')=>if i=id then some (.normal,s')else some (.exit i,s')
    |some (.normal,s')=>some (.normal,s')
    |some (.ret,s')=>some (.ret,s')
    |none=>none:=by
    cases c<;>first|rfl|exact absurd ⟨_,rfl⟩ hl
   rw[hex]at hr;have OS: ∀id b,oZ id b c->oZ id b fi.body:=fun i b ho=>VY i b (by
    cases c<;>first|exact absurd ⟨_,rfl⟩ hl|(simp only[oZ];exact ho))
   split at hr;rename_i i s1 mF;refine wp_mono (ih dx OS h mF) fun e a' w'⟨he,az⟩=>?_;subst he;by_cases hi:i=id;rw[if_pos hi]at hr;cases hr;simp only[Ex.BP,Exit.inBlock,if_pos hi];exact⟨trivial,az⟩;rw[if_neg hi]at hr;cases hr;simp only[Ex.BP,Exit.inBlock,if_neg hi];exact⟨trivial,az⟩;rename_i s1 mF;cases hr;refine wp_mono (ih dx OS h mF) fun e a' w'⟨he,az⟩=>?_;subst he;exact⟨rfl,az⟩;rename_i s1 mF;cases hr;refine wp_mono (ih dx OS h mF) fun e a' w'⟨he,az⟩=>?_;subst he;exact⟨rfl,az⟩;cases hr
  |exit id=>intro _ _ w ι Im a s s' ex h hr;simp only[exec,wd,Prod.mk.injEq]at hr;obtain⟨rfl,rfl⟩:=hr;exact wp_exit ⟨rfl,ι,Im,h,G! _ _ _ _⟩
  |ret=>intro _ _ w ι Im a s s' ex h hr;simp only[exec,wd,Prod.mk.injEq]at hr;obtain⟨rfl,rfl⟩:=hr;exact wp_ret ⟨rfl,ι,Im,h,G! _ _ _ _⟩
  |_=>intro _ _ w ι Im a s s' ex h hr;simp[exec]at hr
end
theorem lB{i id:Nat}{c:Code}(h: ∀b,c≠ .loop b):zQ (.block i c) id=zQ c id:=by cases c<;>first|rfl|exact absurd rfl (h _)
theorem JR{nt:Nat}{id:Nat}{b:Code}: ∀{c:Code},gM nt c=true->zQ c id=some b->gM nt b=true:=by intro c;induction c with|seq x y Z2 XL=>intro h hf;simp only[gM,zU]at h;simp only[zQ]at hf;split at hf;rename_i c0 hx;cases hf;exact Z2 h.1 hx;exact XL h.2 hf|block i c ih=>intro h hf;by_cases hl: ∃x,c= .loop x;obtain⟨x,rfl⟩:=hl;simp only[gM]at h ih;simp only[zQ]at hf ih;split at hf;cases hf;exact h;exact ih h hf;rw[lB fun x e=>hl ⟨x,e⟩]at hf;exact ih (by simpa only[gM]using h) hf|cond o x y Z2 XL=>intro h hf;simp only[gM,zU]at h;simp only[zQ]at hf;split at hf;rename_i c0 hx;cases hf;exact Z2 h.1 hx;exact XL h.2 hf|loop c ih=>intro h hf;simp only[gM]at h;simp only[zQ]at hf;exact ih h hf|_=>intro h hf;simp[zQ]at hf
theorem UX{id:Nat}{b:Code}: ∀{c:Code},zQ c id=some b-> ∀i x,oZ i x b->oZ i x c:=by intro c;induction c with|seq x y Z2 XL=>intro hf i z hz;simp only[zQ]at hf;simp only[oZ];split at hf;rename_i c0 hx;cases hf;exact .inl (Z2 hx i z hz);exact .inr (XL hf i z hz)|block j c ih=>(intro hf i z hz;by_cases hl: ∃x,c= .loop x;obtain⟨x,rfl⟩:=hl;simp only[zQ]at hf ih;simp only[oZ]at ih |-;split at hf;cases hf;exact .inr hz;exact .inr (ih hf i z hz);rw[lB fun x e=>hl ⟨x,e⟩]at hf;have:=ih hf i z hz;cases c<;>first|exact absurd ⟨_,rfl⟩ hl|exact this)|cond o x y Z2 XL=>intro hf i z hz;simp only[zQ]at hf;simp only[oZ];split at hf;rename_i c0 hx;cases hf;exact .inl (Z2 hx i z hz);exact .inr (XL hf i z hz)|loop c ih=>intro hf i z hz;simp only[zQ]at hf;simp only[oZ];exact ih hf i z hz|_=>intro hf;simp[zQ]at hf
structure D8 (P:Program) (G:GP):Prop where
 fn: ∀f fi,G.fn f=some fi-> ∃fn,P.funcs[f]? =some fn/\(fn.name== "runtime.NumGoroutine")=false/\fn.body=some fi.body/\fn.ntmps=fi.nt/\fn.results.toList=fi.results/\
  gM fi.nt fi.body=true/\(yG fi.body).Nodup
section
variable [xn] {P:Program} {w:World} {H:qp} {ι:yv} {Im:Nat->Prop}
theorem loop_ok{G:GP}{O:xt}(hm:P.follows .mixedOrders=true)(hG:yE P G)(hF:D8 P G)(hO:Sound P G O){f:FuncId}{id:Nat}{s s' :St}{ex:Ex}
  (hr:mK G O f id s=some (ex,s')):Ir P G f id s ex s' :=by
 intro fi c XG hc;obtain⟨fn,_,_,_,_,_,dx,Ef⟩:=hF.fn f fi XG;have So: ∀{w:World}{ι:yv}{Im:Nat->Prop}{a:Act}{s s' :St}{ex:Ex},Inv w a s ι Im fi.nt->exec G O f c s=some (ex,s')->
   c.wp P (fun e a' w' =>e=ex.BP/\aD w s.heap ι Im fi.nt s' a' w') a w:=
  fun h hr=>Sf hm hG hO f fi XG Ef c (JR dx hc) (UX hc) h hr
 unfold mK at hr;rw[XG]at hr;simp only[hc]at hr;split at hr;{rename_i s1 mF;split at hr;rotate_left;cases hr;(rename_i s2 Fj;obtain⟨jZ,n,hn⟩:=hO.loop f id s2 ex s' hr fi c XG hc;refine⟨jZ,n+1,fun w ι Im a h=>?_⟩;rw[rounds_succ];refine wp_mono (So h mF) fun e a' w'⟨he,ι1,iX,h1,e1⟩=>?_;subst he;obtain⟨Gs,h1,e2⟩:=tH (di s1.env s1.heap (G.spec f id).freeze) h1;obtain⟨ι2,h2,e2,jf⟩:=IK (G.spec f id) h1 h.nx (e1.trans e2) Fj;have Sv: ∀(n:Nat){Q Q' :Exit->Act->World->Prop}{a:Act}{w:World},(∀ e a w,Q e a w->Q' e a w)->Code.rounds P c Q n a w->Code.rounds P c Q' n a w:=by intro n;induction n with|zero=>intro Q Q' a w _ h;exact h|succ n ih=>intro Q Q' a w hq h;rw[rounds_succ]at h |-;refine wp_mono h fun e a w he=>?_;cases e<;>first|exact ih hq he|exact hq _ _ _ he);exact Sv n (fun e a w ⟨q1,q2⟩=>⟨q1,(q2.Hp jf).from e2⟩) (hn _ _ _ _ h2)};rename_i i s1 mF;by_cases hi:i=id;rw[if_pos hi]at hr;obtain⟨N7,rfl⟩:=XO hr;refine⟨fun i h=>(by cases h),1,fun w ι Im a h=>?_⟩;rw[rounds_succ];refine wp_mono (So h mF) fun e a' w'⟨he,ι1,iX,h1,e1⟩=>?_;subst he;obtain⟨ι2,h2,e2⟩:=Ww (G.spec f id) h1 h.nx e1 N7;exact⟨by rw[<- hi];rfl,_,_,h2,e2⟩;rw[if_neg hi]at hr;obtain⟨N7,rfl⟩:=XO hr;refine⟨fun j h=>(by cases h;exact hi),1,fun w ι Im a h=>?_⟩;rw[rounds_succ];refine wp_mono (So h mF) fun e a' w'⟨he,ι1,iX,h1,e1⟩=>?_;subst he;obtain⟨ι2,h2,e2⟩:=Ww (G.spec f id) h1 h.nx e1 N7;exact⟨rfl,_,_,h2,e2⟩;rename_i s1 mF;obtain⟨N7,rfl⟩:=XO hr;refine⟨fun i h=>(by cases h),1,fun w ι Im a h=>?_⟩;rw[rounds_succ];refine wp_mono (So h mF) fun e a' w'⟨he,ι1,iX,h1,e1⟩=>?_;subst he;obtain⟨ι2,h2,e2⟩:=Ww (G.spec f id) h1 h.nx e1 N7;exact⟨rfl,_,_,h2,e2⟩;cases hr
theorem Lt{ti:TI}{x r:AV}{v:Value}(hx:RA w H ι Im x v)(hr:QB ti x H=some r): ∃a,v= .pointer (some a):=by unfold QB at hr;split at hr;cases hx;exact⟨_,rfl⟩;cases hx;exact⟨_,rfl⟩;cases hx;exact⟨_,rfl⟩;(cases hx with|pv _ _ h=>cases h;exact⟨_,rfl⟩);cases hr
def Av(tmps:Array Value):ResultVar->Sem Value
 | .tmp t=>pure (tmps.getD t undef)
 | .cell a t=>do loadVar t (<- asAddr (tmps.getD a undef))
theorem Ri(fn:Func)(tmps:Array Value):results fn tmps=(do
  let vs <-fn.results.mapM (Av tmps)
  pure (if h:vs.size=1 then vs[0]else .tuple vs)):=by unfold results;rfl
theorem resOf_ok{G:GP}(hG:yE P G){a:Act}{s:St}{nt:Nat}(h:Inv w a s ι Im nt){rv:ResultVar}{x:AV}(hr:Uq G s rv=some x):
  ∃v,(Av a.tmps rv).run P w= .ok v w/\RA w s.heap ι Im x v:=by cases rv with|tmp t=>simp only[Uq,wd]at hr;subst hr;exact⟨_,by simp only[Av,W?],h.env t⟩|cell b t=>simp only[Uq]at hr;split at hr;rotate_left;cases hr;rename_i ti l5;obtain⟨ad,had⟩:=Lt (h.env b) hr;obtain⟨u,h1,h2⟩:=Bj (hG t ti l5) h.heap (h.env b) hr;refine⟨u, ?_,h2⟩;rw[had]at h1;simp only[Instr.loadAt,Instr.sureAddr,pure_bind]at h1;simp only[Av,had,asAddr,pure_bind];exact h1
theorem Up{G:GP}(hG:yE P G){a:Act}{s:St}{nt:Nat}(h:Inv w a s ι Im nt): ∀{rs:List ResultVar}{xs:List AV},ai G s rs=some xs->
  ∃vs:List Value,(rs.mapM (Av a.tmps)).run P w= .ok vs w/\xs.length=vs.length/\ ∀(i:Nat) x v,xs[i]? =some x->vs[i]? =some v->RA w s.heap ι Im x v
 |[],xs,hr=>by simp only[ai,wd]at hr;subst hr;exact⟨[],z?,rfl,z?⟩
 |r::l,xs,hr=>by simp only[ai]at hr;split at hr;rotate_left;cases hr;rename_i v vs h1 h2;cases hr;obtain⟨u,q1,q2⟩:=resOf_ok hG h h1;obtain⟨us,q3,q4,q5⟩:=Up hG h h2;refine⟨u::us, ?_,by simp[q4],fun i x v hx hv=>?_⟩;rw[q0t];simp only[kf,q1,q3,mb,W?];cases i with|zero=>simp at hx hv;subst hx;subst hv;exact q2|succ i=>simp at hx hv;exact q5 i x v hx hv
theorem Rj{G:GP}(hG:yE P G){fn:Func}{a:Act}{s:St}{nt:Nat}(h:Inv w a s ι Im nt){xs:List AV}(hr:ai G s fn.results.toList=some xs):
  ∃v,(results fn a.tmps).run P w= .ok v w/\RA w s.heap ι Im (lX xs) v:=by
 obtain⟨vs,h1,h2,h3⟩:=Up hG h hr;rw[Ri,Array.mapM_eq_mapM_toList];have h1' :(Functor.map List.toArray (fn.results.toList.mapM (Av a.tmps)):Sem (Array Value)).run P w= .ok vs.toArray w:=by rw[map_eq_pure_bind,kf,h1,mb,W?]
 rw[kf,h1',mb,W?];refine⟨_,rfl, ?_⟩;split
 ·rename_i hs;obtain⟨v,rfl⟩: ∃v,vs=[v]:=by
   cases vs with
   |nil=>simp at hs
   |cons v r=>cases r with
    |nil=>exact⟨v,rfl⟩
    |cons _ _=>simp at hs
  obtain⟨x,rfl⟩: ∃x,xs=[x]:=by
   cases xs with
   |nil=>simp at h2
   |cons v r=>cases r with
    |nil=>exact⟨v,rfl⟩
    |cons _ _=>simp at h2
  exact h3 0 x v rfl rfl
 rename_i hs;have:lX xs= .xW xs:=by unfold lX;split;exfalso;apply hs;simpa using h2.symm;rfl
 rw[this];exact .xW xs vs h2 h3
theorem Bt: ∀{args:List AV}{vs:List Value}(k:Nat),args.length=vs.length->(∀(i:Nat) x v,args[i]? =some x->vs[i]? =some v->RA w H ι Im x v)->
  ∀t,(rF k args).get t= .undef\/ ∃i x v,t=k+i/\args[i]? =some x/\vs[i]? =some v/\(rF k args).get t=x
 |[],vs,k,_,_,t=> .inl rfl
 |x::r,[],k,h,_,t=>by simp at h
 |x::r,v::us,k,hl,h,t=>by simp only[rF,B!];split;rename_i e;exact .inr ⟨0,x,v,o?,rfl,rfl,rfl⟩;rcases Bt (args:=r) (vs:=us) (k+1) (by simpa using hl) (fun i x v h1 h2=>h (i+1) x v (by simpa using h1) (by simpa using h2)) t with g|⟨i,y,u,e,g1,g2,g3⟩;exact .inl g;exact .inr ⟨i+1,y,u,o?,by simpa using g1,by simpa using g2,g3⟩
theorem unz_ok{x:AV}{v:Value}(h:RA w H ι Im x v):RA w H ι Im (unz x) v:=by cases h with|iW a=>exact .pv _ _ (.sl 0 [] a.block a.off 0 (fun _=>undef) (fun h=>absurd rfl h) z? z? z? z? z? a.spot (fun h=>absurd rfl h))|undef v=>exact .undef v|pv p v h=>exact .pv p v h|ptr β o c hb hk=>exact .ptr β o c hb hk|uS β xm i o b1 o1 b hb jJ h=>exact .uS β xm i o b1 o1 b hb jJ h|row β xm off n v b ho hb hk jJ h=>exact .row β xm off n v b ho hb hk jJ h|tQ c o b off vs Qt hc hf h=>exact .tQ c o b off vs Qt hc hf h|map β es zN hb=>exact .map β es zN hb|Q3 f a b va vb VX Su ha hb=>exact .Q3 f a b va vb VX Su ha hb|agg c vs hl hf h=>exact .agg c vs hl hf h|xW c vs hl h=>exact .xW c vs hl h
theorem sub_evo{w0:World}{H0:qp}{ι0:yv}{Qm:Nat->Prop}{L:List Nat}{H' :qp}(hs:Zx H L H')(he:vj w0 H0 ι0 Qm w H ι Im){m:Nat}{r:List Nat}(hL:L=F? m++r)
  (hm: ∀β b,H0.get β=some b->β<m):vj w0 H0 ι0 Qm w H' (Zi ι L) Im where
 comp:=fun β b hb=>by (obtain⟨b',q1,q2⟩:=he.comp β b hb;have hl:L[β]? =some β:=by rw[hL];exact Ub m r (hm β b hb));(refine⟨b'.cq (pos L),by rw[hs.look,hl];simp[q1], ?_⟩;have:Zi ι L β=ι β:=by simp[Zi,hl]);rw[this];exact Ja _ q2
 im:=he.im
 pX:=he.pX
 nS:=fun γ x z hx hu=>by obtain⟨β,b0,h1,h2,rfl,h4⟩:=hs.inv (ι:=ι) hx;rw[qJ.nY,h4]at hu;exact he.nS β b0 z h2 hu
 kR:=he.kR
 size:=he.size
 io:=he.io
theorem DU{w0:World}{H0:qp}{ι0:yv}{Qm:Nat->Prop}{a:Act}{s:St}{nt:Nat}(h:Inv w a s ι Im nt){x:AV}{u:Value}(hx:RA w s.heap ι Im x u)
  (he:vj w0 H0 ι0 Qm w s.heap ι Im) {m:Nat} (hm: ∀β b,H0.get β=some b->β<m) {sk:Bool} {r:AV} {H' :qp} (hr:finish m sk x s=some (r,H')):
  ∃ι' kh,zf w H' ι' kh/\vj w0 H0 ι0 Qm w H' ι' kh/\RA w H' ι' kh r u:=by
 have hinv:Inv w ⟨#[u],[]⟩ { s with env:=[(0,x)] } ι Im 0:=by refine⟨h.heap,fun t=>?_,h.nx,E! _,rfl⟩;cases t with|zero=>simpa[B!]using hx|succ t=>simp only[B!];rw[if_neg o?];exact .undef _
 have key: ∀{s1:St}{iX:Nat->Prop},Inv w ⟨#[u],[]⟩ s1 ι iX 0->vj w s.heap ι Im w s1.heap ι iX->(match sg s1.heap (F? m) (unz (s1.env.get 0)).refs with
   |some (L,H)=>some ((unz (s1.env.get 0)).cq (pos L),H)
   |none=>none)=some (r,H')-> ∃ι' kh,zf w H' ι' kh/\vj w0 H0 ι0 Qm w H' ι' kh/\RA w H' ι' kh r u:=by
  intro s1 iX h1 e1 hr;split at hr<;>cases hr;rename_i L Z1;obtain⟨hs,Wn,rr,hL⟩:=oI q0o Z1;refine⟨Zi ι L,iX,hs.hinv h1.heap,sub_evo hs (he.trans e1) hL hm, ?_⟩;have hv:=unz_ok (h1.env 0);simp only[I_]at hv;exact Z9 _ hv fun β hβ b hb=>hs.BH (Wn β hβ) b hb
 unfold finish at hr;cases sk with|true=>simp only[if_true]at hr;exact key hinv (G! _ _ _ _) hr|false=>simp only[wH,if_false]at hr;obtain⟨iX,h1,e1⟩:=tH x.rows hinv;exact key h1 e1 hr
theorem runFn_ok{G:GP}{O:xt}(hm:P.follows .mixedOrders=true)(hG:yE P G)(hF:D8 P G)(hO:Sound P G O){f:FuncId}{args:List AV}{H:qp}{r:AV}{H' :qp}
  (hr:lQ G O f args H=some (r,H')):enters P f/\lf P f args H r H' :=by
 unfold lQ at hr;split at hr;cases hr;rename_i fi XG;obtain⟨fn,g1,g2,g3,g4,g5,dx,Ef⟩:=hF.fn f fi XG;refine⟨⟨fn,g1,g2,by rw[g3];rfl⟩,fun w ι Im vs hi hl hR=>?_⟩;split at hr;rotate_left;cases hr;rename_i hk;have xS: ∀β b,H.get β=some b->β<H.length:=fun β b hb=>by have:=(sL H 0 hk hb).2;omega
 have hinv:Inv w { tmps:=(⟨vs⟩:Array Value)++m_ (fn.ntmps-(⟨vs⟩:Array Value).size) undef,defers:=[] } ⟨rF 0 args,H,H.length⟩ ι Im fi.nt:=by refine⟨hi,fun t=>?_,xS, ?_,rfl⟩;simp only;rcases Bt 0 hl hR t with h|⟨i,x,v,e,h1,h2,h3⟩;rw[h];exact .undef _;(rw[h3];have:t=i:=o?;subst this;have ht:t<vs.length:=(qL h2).1;have:(((⟨vs⟩:Array Value)++m_ (fn.ntmps-(⟨vs⟩:Array Value).size) undef).getD t undef)=v:=by rw[Array.getD_eq_getD_getElem?,Array.getElem?_append_left (by simpa using ht)];simp only[List.getElem?_toArray,h2,e!]);rw[this];exact hR t x v h1 h2;simp only[Array.size_append,Array.size_replicate];omega
 have hwp: ∀{s s' :St}{ex:Ex}{w:World}{ι:yv}{Im:Nat->Prop}{a:Act},Inv w a s ι Im fi.nt->exec G O f fi.body s=some (ex,s')->
   fi.body.wp P (fun e a' w' =>e=ex.BP/\aD w s.heap ι Im fi.nt s' a' w') a w:=
  fun h hr=>Sf hm hG hO f fi XG Ef fi.body dx (fun _ _ h=>h) h hr
 have close: ∀{s:St}{ex:Ex},exec G O f fi.body ⟨rF 0 args,H,H.length⟩=some (ex,s)->(ex= .normal\/ex= .ret)->(match ai G (pN (G.cmd f 999999) s) fi.results with
   |some vs=>finish H.length (G.sk f) (lX vs) (pN (G.cmd f 999999) s)
   |none=>none)=some (r,H')->Calls P f ⟨vs⟩ w fun e w' => ∃v ι' kh,e= .returned v/\zf w' H' ι' kh/\vj w H ι Im w' H' ι' kh/\RA w' H' ι' kh r v:=by
  intro s ex hs hex hr;split at hr;rotate_left
  ·cases hr
  rename_i xs Ek;refine calls_of_wp g1 g3 (wp_mono (hwp hinv hs) fun e a' w'⟨he,az⟩=>?_);obtain⟨ι1,iX,h1,e1⟩:=az.post (G.cmd f 999999);subst he;rw[<- g5]at Ek;obtain⟨v,q1,q2⟩:=Rj hG h1 Ek;obtain⟨ι2,Gs,k1,k2,k3⟩:=DU h1 q2 e1 xS hr;rcases hex with rfl|rfl
  ·exact⟨h1.defers,v,q1,v,ι2,Gs,rfl,k1,k2,k3⟩
  exact⟨h1.defers,v,q1,v,ι2,Gs,rfl,k1,k2,k3⟩
 split at hr;cases hr;(rename_i ex s jZ hs;refine close hs ?_ hr;cases ex with|normal=>exact .inl rfl|ret=>exact .inr rfl|exit i=>exact absurd rfl (jZ i));cases hr
def Q1[xn](P:Program)(S:mX):Prop:= ∀f g,S.call f=some g-> ∀args H r H',g args H=some (r,H')->enters P f/\lf P f args H r H'
theorem orc_ok[xn]{G:GP}{S:mX}(hm:P.follows .mixedOrders=true)(hG:yE P G)(hF:D8 P G)(hS:Q1 P S): ∀n,Sound P G (WQ G S n)
 |0=>⟨⟨fun _ _ _ _ _ h=>by simp[WQ]at h⟩,fun _ _ _ _ _ h=>by simp[WQ]at h⟩
 |n+1=>by have ih:=orc_ok hm hG hF hS n;refine⟨⟨fun f args H r H' h=>?_⟩,fun f id s ex s' h=>?_⟩;simp only[WQ]at h;split at h;rename_i g hg;exact hS f g hg args H r H' h;exact runFn_ok hm hG hF ih h;simp only[WQ]at h;exact loop_ok hm hG hF ih h
end
def Ends(p:Nat->Prop):Prop:= ∃n,∀ m,n<=m->p m
theorem Ends.and{p q:Nat->Prop}(h1:Ends p)(h2:Ends q):Ends fun m=>p m/\q m:=
 let⟨a,ha⟩:=h1
 let⟨b,hb⟩:=h2
 ⟨max a b,fun m hm=>⟨ha m o?,hb m o?⟩⟩
theorem Ends.mono{p q:Nat->Prop}(h: ∀m,p m->q m)(h1:Ends p):Ends q:=
 let⟨a,ha⟩:=h1
 ⟨a,fun m hm=>h m (ha m hm)⟩
theorem Ends.of{p:Prop}(h:p):Ends fun _=>p:=⟨0,fun _ _=>h⟩
theorem Ends.now{p:Nat->Prop}(h:Ends p): ∃n,p n:=let⟨a,ha⟩:=h;⟨a,ha a (ju _)⟩
open Classical in
noncomputable def SJ {α:Type} (F:Nat->Option α):Option α:=
 if h: ∃r,Ends fun m=>F m=some r then some h.choose else none
theorem bZ{α:Type}{F:Nat->Option α}{r:α}:SJ F=some r↔Ends fun m=>F m=some r:=by unfold SJ;constructor;intro h;split at h;rename_i hx;cases h;exact hx.choose_spec;cases h;intro h;have hx: ∃r,Ends fun m=>F m=some r:=⟨r,h⟩;rw[dif_pos hx];obtain⟨n,h1,h2⟩:=(h.and hx.choose_spec).now;rw[h1]at h2;exact h2.symm
noncomputable def omega (G:GP) (S:mX):xt:=
 ⟨fun f args H=>SJ fun n=>(WQ G S n).call f args H,fun f id s=>SJ fun n=>(WQ G S n).loop f id s⟩
section
variable {G:GP} {S:mX}
variable {O:xt} {F:Nat->xt}
structure dS (O:xt) (F:Nat->xt):Prop where
 call: ∀f args H r,O.call f args H=some r->Ends fun m=>(F m).call f args H=some r
 loop: ∀f id s r,O.loop f id s=some r->Ends fun m=>(F m).loop f id s=some r
theorem KS(hA:dS O F){f:FuncId}{args:List AV}{H:qp}{nx:Nat}{e:my}(h:eM O f args H nx=some e):Ends fun m=>eM (F m) f args H nx=some e:=by unfold eM at h |-;split at h;cases h;rename_i L H0 hs;split at h;cases h;rename_i v H' hc;refine(hA.call _ _ _ _ hc).mono fun m hm=>?_;rw[hm];exact h
theorem Bq(hA:dS O F){o:Op}{E:yu}{H:qp}{nx:Nat}{e:my}(h:mz G O o E H nx=some e):Ends fun m=>mz G (F m) o E H nx=some e:=by cases o with|call c=>(obtain⟨callee,args,cu⟩:=c;cases callee with|value fo=>unfold mz at h |-;simp only at h |-;split at h;exact KS hA h;exact KS hA h;cases h|_=>exact Ends.of h)|makeFunc fn a b=>cases fn<;>exact Ends.of h|makeMap t r=>cases r<;>exact Ends.of h|_=>exact Ends.of h
theorem Rz(hA:dS O F){o:Oper}{s s' :St}(h:Xe G O o s=some s'):Ends fun m=>Xe G (F m) o s=some s' :=by unfold Xe at h |-;split at h;rename_i v ws nx ZP;refine(Bq hA ZP).mono fun m hm=>?_;rw[hm];exact h;cases h
theorem Xz(hA:dS O F)(all:List Oper): ∀{l:List Oper}{s s' :St},Xy G O all l s=some s' ->Ends fun m=>Xy G (F m) all l s=some s'
 |[],s,s',h=>Ends.of h
 |o::r,s,s',h=>by simp only[Xy]at h |-;split at h;split at h;rename_i s1 mF;refine((Rz hA mF).and (Xz hA all h)).mono fun m⟨h1,h2⟩=>?_;simp only[h1,h2];cases h;exact Xz hA all h;cases h
theorem QS(hA:dS O F)(all:List Oper){tm:Bool}: ∀{l:List Oper}{i:Nat}{s s' :St}{log:List (Nat×List Nat×List Nat)},dX G O all tm i l s log=some s' ->Ends fun m=>dX G (F m) all tm i l s log=some s'
 |[],i,s,s',log,h=>Ends.of h
 |o::r,i,s,s',log,h=>by simp only[dX]at h |-;split at h;split at h;rename_i v ws nx ZP;refine((Bq hA ZP).and (QS hA all h)).mono fun m⟨h1,h2⟩=>?_;rw[h1];exact h2;cases h;exact QS hA all h;cases h
theorem Q7(hA:dS O F){f:FuncId}: ∀{c:Code}{s:St}{r:Ex×St},exec G O f c s=some r->Ends fun m=>exec G (F m) f c s=some r:=by
 intro c;induction c with
  |region id ops d=>intro s r h;cases d with|false=>simp only[exec]at h |-;split at h<;>cases h;rename_i s1 mF;refine(Xz hA _ mF).mono fun m hm=>?_;rw[hm]|true=>simp only[exec]at h |-;split at h<;>cases h;rename_i s1 mF;refine(QS hA _ mF).mono fun m hm=>?_;rw[hm]
  |seq x y Z2 XL=>intro s r h;simp only[exec]at h |-;split at h;rename_i s1 mF;refine((Z2 mF).and (XL h)).mono fun m⟨h1,h2⟩=>?_;rw[h1];exact h2;rename_i s1 mF;refine(Z2 mF).mono fun m h1=>?_;rw[h1];exact h;rename_i i s1 mF;refine(Z2 mF).mono fun m h1=>?_;rw[h1];exact h;cases h
  |cond o x y Z2 XL=>intro s r h;simp only[exec]at h |-;split at h;(rename_i b hb;cases b with|true=>exact Z2 h|false=>exact XL h);cases h
  |block id c ih=>
   intro s r h;by_cases hl: ∃b,c= .loop b;obtain⟨b,rfl⟩:=hl;simp only[exec]at h |-;split at h;exact hA.loop _ _ _ _ h;cases h
   have hex: ∀O,exec G O f (.block id c) s=match exec G O f c s with
    |some (.exit i,s')=>if i=id then some (.normal,s')else some (.exit i,s')
    |some (.normal,s')=>some (.normal,s')
    |some (.ret,s')=>some (.ret,s')
    |none=>none:=by
    intro O;cases c<;>first|rfl|exact absurd ⟨_,rfl⟩ hl
   simp only[hex]at h |-;split at h;rename_i i s1 mF;refine(ih mF).mono fun m h1=>?_;rw[h1];exact h;rename_i s1 mF;refine(ih mF).mono fun m h1=>?_;rw[h1];exact h;rename_i s1 mF;refine(ih mF).mono fun m h1=>?_;rw[h1];exact h;cases h
  |skip=>intro s r h;exact Ends.of h
  |exit id=>intro s r h;exact Ends.of h
  |ret=>intro s r h;exact Ends.of h
  |_=>intro s r h;simp[exec]at h
theorem ez(hA:dS O F){f:FuncId}{id:Nat}{s:St}{r:Ex×St}(h:mK G O f id s=some r):Ends fun m=>mK G (F m) f id s=some r:=by unfold mK at h |-;split at h;cases h;rename_i fi XG;split at h;cases h;rename_i c hc;split at h;rename_i s1 mF;split at h;rename_i s2 Fj;refine((Q7 hA mF).and (hA.loop _ _ _ _ h)).mono fun m⟨h1,h2⟩=>?_;simp only[h1,Fj,h2];cases h;rename_i i s1 mF;refine(Q7 hA mF).mono fun m h1=>?_;simp only[h1];exact h;rename_i s1 mF;refine(Q7 hA mF).mono fun m h1=>?_;simp only[h1];exact h;cases h
theorem Zb(hA:dS O F){f:FuncId}{args:List AV}{H:qp}{r:AV×qp}(h:lQ G O f args H=some r):Ends fun m=>lQ G (F m) f args H=some r:=by unfold lQ at h |-;split at h;cases h;rename_i fi XG;split at h;rotate_left;cases h;rename_i hk;simp only[hk,if_true];split at h;cases h;(rename_i ex s jZ hs;refine(Q7 hA hs).mono fun m h1=>?_;rw[h1];cases ex with|exit i=>exact absurd rfl (jZ i)|_=>exact h);cases h
theorem X1:dS (omega G S) (WQ G S):=⟨fun _ _ _ _ h=>bZ.1 h,fun _ _ _ _ h=>bZ.1 h⟩
theorem WR: ∀n,dS (WQ G S n) fun _=>WQ G S (n+1)
 |0=>⟨fun _ _ _ _ h=>by simp[WQ]at h,fun _ _ _ _ h=>by simp[WQ]at h⟩
 |n+1=>by have ih:=WR n;refine⟨fun f args H r h=>?_,fun f id s r h=>?_⟩;rw[WQ]at h |-;simp only at h |-;split at h;exact Ends.of h;exact Zb ih h;rw[WQ]at h |-;simp only at h |-;exact ez ih h
theorem NM{n:Nat}{f:FuncId}{args:List AV}{H:qp}{r:AV×qp}(h:(WQ G S n).call f args H=some r):(omega G S).call f args H=some r:=by refine bZ.2 ⟨n,fun m hm=>?_⟩;obtain⟨k,rfl⟩:=Y' hm;induction k with|zero=>exact h|succ k ih=>obtain⟨_,h2⟩:=((WR (n+k)).call f args H r (ih o?)).now;exact h2
theorem omega_fn{f:FuncId}{args:List AV}{H:qp}{r:AV×qp}(hs:S.call f=none)(h:lQ G (omega G S) f args H=some r):(omega G S).call f args H=some r:=by refine bZ.2 ?_;obtain⟨n,hn⟩:=Zb X1 h;refine⟨n+1,fun m hm=>?_⟩;obtain⟨k,rfl⟩: ∃k,m=k+1:=⟨m-1,o?⟩;simp only[WQ,hs];exact hn k o?
theorem TB{f:FuncId}{id:Nat}{s:St}{r:Ex×St}(h:mK G (omega G S) f id s=some r):(omega G S).loop f id s=some r:=by refine bZ.2 ?_;obtain⟨n,hn⟩:=ez X1 h;refine⟨n+1,fun m hm=>?_⟩;obtain⟨k,rfl⟩: ∃k,m=k+1:=⟨m-1,o?⟩;simp only[WQ];exact hn k o?
theorem omega_ok[xn]{P:Program}(hm:P.follows .mixedOrders=true)(hG:yE P G)(hF:D8 P G)(hS:Q1 P S){f:FuncId}{args:List AV}{H:qp}{r:AV}{H' :qp}
  (h:(omega G S).call f args H=some (r,H')):lf P f args H r H' :=by obtain⟨n,hn⟩:=(bZ.1 h).now;exact((orc_ok hm hG hF hS n).call f args H r H' hn).2
theorem orc_loop{n:Nat}{f:FuncId}{id:Nat}{s:St}{r:Ex×St}(h:(WQ G S n).loop f id s=some r):(omega G S).loop f id s=some r:=by refine bZ.2 ⟨n,fun m hm=>?_⟩;obtain⟨k,rfl⟩:=Y' hm;induction k with|zero=>exact h|succ k ih=>obtain⟨_,h2⟩:=((WR (n+k)).loop f id s r (ih o?)).now;exact h2
theorem U5(n:Nat):dS (WQ G S n) fun _=>omega G S:=
 ⟨fun _ _ _ _ h=>Ends.of (NM h),fun _ _ _ _ h=>Ends.of (orc_loop h)⟩
theorem TA(f:FuncId)(id:Nat)(s:St):(omega G S).loop f id s=mK G (omega G S) f id s:=by cases h:mK G (omega G S) f id s with|some r=>exact TB h|none=>cases h2:(omega G S).loop f id s with|none=>rfl|some r=>obtain⟨n,hn⟩:=bZ.1 h2;have h3:=hn (n+1) o?;simp only[WQ]at h3;obtain⟨_,h4⟩:=(ez (U5 n) h3).now;rw[h]at h4;cases h4
theorem Tz{f:FuncId}(hs:S.call f=none)(args:List AV)(H:qp):(omega G S).call f args H=lQ G (omega G S) f args H:=by cases h:lQ G (omega G S) f args H with|some r=>exact omega_fn hs h|none=>cases h2:(omega G S).call f args H with|none=>rfl|some r=>obtain⟨n,hn⟩:=bZ.1 h2;have h3:=hn (n+1) o?;simp only[WQ,hs]at h3;obtain⟨_,h4⟩:=(Zb (U5 n) h3).now;rw[h]at h4;cases h4
end
end Go.Gm
namespace Go.Gm
open Go
def fnOf(P:Program)(f:FuncId):Option FI:=
 match P.funcs[f]? with
 |some fn=>match fn.body with
  |some b=>if fn.name≠ "runtime.NumGoroutine" /\gM fn.ntmps b=true/\(yG b).Nodup then some ⟨fn.ntmps,fn.results.toList,b⟩else none
  |none=>none
 |none=>none
theorem fnOf_ok{P:Program}{f:FuncId}{fi:FI}(h:fnOf P f=some fi): ∃fn,P.funcs[f]? =some fn/\(fn.name== "runtime.NumGoroutine")=false/\fn.body=some fi.body/\fn.ntmps=fi.nt/\
  fn.results.toList=fi.results/\gM fi.nt fi.body=true/\(yG fi.body).Nodup:=by
 unfold fnOf at h;split at h<;>try cases h
 rename_i fn hfn;split at h<;>try cases h
 rename_i b hb;split at h<;>try cases h
 rename_i hc;exact⟨fn,hfn,by simpa using hc.1,hb,rfl,rfl,hc.2.1,hc.2.2⟩
def gpOf(P:Program)(spec:FuncId->Nat->py)(owned sk:FuncId->Bool)(pre:FuncId->Nat->List Nat)(Hb Ep:TypeId->Bool)(cmd:FuncId->Nat->List D7):GP:=⟨tiOf P,fnOf P,spec,owned,sk,pre,Hb,Ep,cmd⟩
theorem Ox{P:Program}{spec:FuncId->Nat->py}{owned sk:FuncId->Bool}{pre:FuncId->Nat->List Nat}{Hb Ep:TypeId->Bool}{cmd:FuncId->Nat->List D7}:yE P (gpOf P spec owned sk pre Hb Ep cmd):=fun _ _ h=>tiOf_ok h
theorem gp_fns{P:Program}{spec:FuncId->Nat->py}{owned sk:FuncId->Bool}{pre:FuncId->Nat->List Nat}{Hb Ep:TypeId->Bool}{cmd:FuncId->Nat->List D7}:D8 P (gpOf P spec owned sk pre Hb Ep cmd):=⟨fun _ _ h=>fnOf_ok h⟩
def U4(w:World)(b:Nat):Prop:=b<w.heap.size
theorem old_inv[xn](w:World)(ι:yv)(hg:xn.ok w/\ ∀b,xn.on b->b<w.heap.size):zf w [] ι (U4 w) where
 N0:=hg.1
 VS:=hg.2
 ru:=fun _ _ h=>by cases h
 inj:=fun _ _ _ _ _ h=>by cases h
 im:=fun _ h=>h
 Vt:=fun _ _ _ h=>by cases h
def Dc(w:World)(c:List PV)(cs:List Value):Prop:=
 c.length=cs.length/\(∀ p∈c,p.wc=true)/\ ∀(i:Nat) p v,c[i]? =some p->cs[i]? =some v->RP w (U4 w) p v
theorem Dc.append{w:World}{c c' :List PV}{cs cs' :List Value}(h:Dc w c cs)(h' :Dc w c' cs'):Dc w (c++c') (cs++cs'):=by obtain⟨a1,a2,a3⟩:=h;obtain⟨b1,b2,b3⟩:=h';refine⟨by simp[a1,b1],fun p hp=>?_,fun i p v h1 h2=>?_⟩;rcases p?.1 hp with hp|hp;exact a2 p hp;exact b2 p hp;by_cases hi:i<c.length;rw[t? hi]at h1;rw[t? (a1 ▸ hi)]at h2;exact a3 i p v h1 h2;rw[J? o?]at h1;rw[J? o?]at h2;exact b3 _ p v h1 (a1 ▸ h2)
theorem Dc.one{w:World}{p:PV}{v:Value}(hf:p.wc=true)(h:RP w (U4 w) p v):Dc w [p] [v]:=by refine⟨rfl,by simpa using hf,fun i q u h1 h2=>?_⟩;cases i with|zero=>simp at h1 h2;subst h1;subst h2;exact h|succ i=>simp at h1
theorem Dc.nil{w:World}:Dc w [] []:=⟨rfl,z?,z?⟩
def zX{α:Type}(P:Program)(t:TypeId)(e:α->List PV)(ok:α->Prop)(n:Nat):Prop:=
 ∀(H:Type)(enc:TypeId×Value->H)(w:World)(base:Nat)(spare:Nat->Bool)(held:Bool)(fuel:Nat)(cs:List Value)(x:DataW H×List MemPlace),fuel<=n->
  DataW.trod enc P w base spare held fuel t cs=some x-> ∃a:α,ok a/\(e a).length=P.cellsOf t/\Dc w (e a) cs
section
variable {P:Program}
theorem zX.int{t:TypeId}{k:IntKind}(ht:P.underlying t=some (.int k))(hc:P.cellsOf t=1)(n:Nat):zX P t (fun x:Int=>[PV.int k x]) (fun x=>(Lit.int k x).wf=true) n:=by intro H enc w base spare held fuel cs x _ h;obtain⟨a,rfl,_,hw⟩:=DataW.trod_int ht h;exact⟨a,hw,by simp[hc],.one rfl (.int k a)⟩
theorem zX.bool{t:TypeId}(ht:P.underlying t=some .bool)(hc:P.cellsOf t=1)(n:Nat):zX P t (fun x:Bool=>[PV.bool x]) (fun _=>True) n:=by intro H enc w base spare held fuel cs x _ h;obtain⟨a,rfl,_⟩:=DataW.trod_bool ht h;exact⟨a,trivial,by simp[hc],.one rfl (.bool a)⟩
theorem zX.str{t:TypeId}(ht:P.underlying t=some .string)(hc:P.cellsOf t=1)(n:Nat):zX P t (fun x:List UInt8=>[PV.str x]) (fun x=>x.length<=maxLen) n:=by intro H enc w base spare held fuel cs x _ h;obtain⟨a,rfl,_,hl⟩:=DataW.trod_string ht h;exact⟨a.data.toList,by simpa using hl,by simp[hc],.one rfl (.str _)⟩
theorem zX.map{α β:Type}{t:TypeId}{e:α->List PV}{ok:α->Prop}{e' :β->List PV}{ok' :β->Prop}{n:Nat}(h:zX P t e ok n)(f:α->β)
  (hf: ∀a,ok a->ok' (f a)/\e' (f a)=e a):zX P t e' ok' n:=by intro H enc w base spare held fuel cs x hn hx;obtain⟨a,h1,h2,h3⟩:=h H enc w base spare held fuel cs x hn hx;obtain⟨g1,g2⟩:=hf a h1;exact⟨f a,g1,by rw[g2];exact h2,by rw[g2];exact h3⟩
theorem zX.mono{α:Type}{t:TypeId}{e:α->List PV}{ok:α->Prop}{n m:Nat}(h:zX P t e ok n)(hm:m<=n):zX P t e ok m:=
 fun H enc w base spare held fuel cs x hn hx=>h H enc w base spare held fuel cs x (p! hn hm) hx
def slP(qw:Bool)(sz:Nat)(es:List (List PV)):PV:= .sl (qw&&es.isEmpty) (xd sz es) es
theorem Tm{α:Type}{f:Nat->Option α}: ∀{n:Nat}{l:List α},(F? n).mapM f=some l->l.length=n/\ ∀i,i<n->f i=l[i]? :=by
 intro n l h;have key: ∀(k:Nat)(m:Nat)(l:List α),(q1f k m).mapM f=some l->l.length=m/\ ∀i,i<m->f (k+i)=l[i]? :=by intro k m;induction m generalizing k with|zero=>intro l h;simp at h;subst h;exact⟨rfl,fun i hi=>o?⟩|succ m ih=>intro l h;rw[q0m,q0t]at h;simp only[zP,J!,Option.pure_def,wd]at h;obtain⟨a,ha,r,hr,rfl⟩:=h;obtain⟨h1,h2⟩:=ih (k+1) r hr;refine⟨by simp[h1],fun i hi=>?_⟩;cases i with|zero=>simpa using ha|succ i=>have:=h2 i o?;rw[show k+(i+1)=k+1+i from o?,this];simp
 have:=key 0 n l (by rwa[<- F']);simpa using this
theorem XA{w:World}{base:Nat}{a:Addr}{n:Nat}{cs:List Value}(h:w.cells? base a n=some cs):cs.length=n/\ ∀i,i<n->w.cell? (a.add i)=cs[i]? :=by unfold World.cells? at h;split at h;exact Tm h;cases h
theorem cell_lt{w:World}{a:Addr}{v:Value}(h:w.cell? a=some v):a.block<w.heap.size/\a.spot=none:=by unfold World.cell? at h;split at h;rename_i c t f hb;refine⟨?_, ?_⟩;rw[M!]at hb;exact hb.1;split at h;cases h;(rename_i hs;cases Sz:a.spot with|none=>rfl|some s=>simp[Sz]at hs);cases h
theorem BE{α β:Type}{p:Nat->α->β->Prop}: ∀(l:List β),(∀ i b,l[i]? =some b-> ∃a,p i a b)-> ∃r:List α,r.length=l.length/\ ∀(i:Nat) a b,r[i]? =some a->l[i]? =some b->p i a b:=by intro l;induction l generalizing p with|nil=>intro _;exact⟨[],rfl,z?⟩|cons b l ih=>intro h;obtain⟨a,ha⟩:=h 0 b rfl;obtain⟨r,h1,h2⟩:=ih (p:=fun i=>p (i+1)) (fun i b' hb=>h (i+1) b' (by simpa using hb));refine⟨a::r,by simp[h1],fun i x y hx hy=>?_⟩;cases i with|zero=>simp at hx hy;subst hx;subst hy;exact ha|succ i=>exact h2 i x y (by simpa using hx) (by simpa using hy)
theorem zX.slice{α:Type}{t el:TypeId}{sz:Nat}{e:α->List PV}{ok:α->Prop}{n:Nat}(ht:P.underlying t=some (.slice el))(hc:P.cellsOf t=1)(ml:P.cellsOf el=sz)(tJ:0<sz)
  (h:zX P el e ok n):zX P t (fun x:Bool×List α=>[slP x.1 sz (x.2.map e)]) (fun x=>x.2.length<=maxLen/\ ∀a∈x.2,ok a) (n+1):=by
 intro H enc w base spare held fuel cs x hn hx;rcases DataW.trod_slice ht hx with ⟨rfl,_⟩|⟨a,len,cap,elems,rest,m,rfl,rfl,_,hb,hlc,hcm,MO,pW,_,_⟩;exact⟨(true,[]),⟨z?,z?⟩,by simp[hc],.one rfl (.aP 0)⟩
 rw[ml]at pW;obtain⟨r,hr1,hr2⟩:=BE (p:=fun i(y:α×List Value)(_:DataW H×List MemPlace)=>w.cells? base (a.add (i*sz)) sz=some y.2/\ok y.1/\(e y.1).length=sz/\Dc w (e y.1) y.2) elems (fun i b hib=>by
  have hi:i<len:=MO ▸ (qL hib).1
  have g:=pW i hi
  rw[hib,J!]at g
  obtain⟨cs,g1,g2⟩:=g
  obtain⟨y,k1,k2,k3⟩:=h H enc w base spare held m cs b o? g2
  exact⟨(y,cs),g1,k1,by rw[<- ml];exact k2,k3⟩)
 have hr3: ∀(i:Nat) y,r[i]? =some y->w.cells? base (a.add (i*sz)) sz=some y.2/\ok y.1/\(e y.1).length=sz/\Dc w (e y.1) y.2:=by intro i y hy;have hi:i<elems.length:=hr1 ▸ (qL hy).1;exact hr2 i y elems[i] hy (by simp[hi])
 have Sx:r.length=len:=by rw[hr1,MO]
 have T5:r≠[]->a.block<w.heap.size/\a.spot=none:=by intro jZ;obtain⟨y,r',rfl⟩:=List.exists_cons_of_ne_nil jZ;obtain⟨g1,_⟩:=hr3 0 y rfl;obtain⟨c1,c2⟩:=XA g1;have:=c2 0 tJ;rw[show a.add (0*sz)=a from by simp[Addr.add],show a.add 0=a from by simp[Addr.add]]at this;have xS:0<y.2.length:=o?;rw[wK xS]at this;exact cell_lt this
 refine⟨(false,r.map (·.1)),⟨by simp[Sx];omega,fun z hz=>?_⟩,by simp[hc], ?_⟩;obtain⟨y,hy,rfl⟩:=G?.1 hz;obtain⟨i,hi⟩:=jI hy;exact(hr3 i y hi).2.1;refine .one rfl ?_;simp only[slP,Bool.false_and,List.map_map];show RP _ _ (FD false sz _) _;obtain⟨ab,ao,Dq⟩:=a;have hlen:(r.map ((fun x=>e x) ∘ fun x=>x.1)).length=len:=by simp[Sx]
 rw[<- hlen];have hmap: ∀(i:Nat) l,(r.map ((fun x=>e x) ∘ fun x=>x.1))[i]? =some l-> ∃y,r[i]? =some y/\l=e y.1:=by intro i l hl;simp only[K?,yZ,Function.comp]at hl;obtain⟨y,h1,h2⟩:=hl;exact⟨y,h1,h2.symm⟩
 have Wg: ∀(i:Nat) y,r[i]? =some y-> ∀j,j<sz->w.cell? ⟨ab,ao+(i*sz+j),none⟩=y.2[j]? :=by intro i y hy j hj;obtain⟨g1,_⟩:=hr3 i y hy;obtain⟨c1,c2⟩:=XA g1;have Sz:=(T5 (fun h0=>by rw[h0]at hy;simp at hy)).2;simp only at Sz;subst Sz;rw[<- c2 j hj];congr 1;unfold Addr.add;by_cases h1:i*sz=0<;>by_cases h2:j=0<;>simp[h1,h2]<;>omega
 refine RP.mk ?_;refine .sl sz _ ab ao cap (fun k=>(r[k / sz]?.bind fun y=>y.2[k % sz]?).getD undef) (fun jZ=>(T5 (fun h0=>jZ (by rw[h0];rfl))).1) (by rw[List.length_map,Sx];exact hlc) (fun l hl=>?_) (fun i hi=>?_) (fun i l j p h1 h2=>?_) (fun i l j p h1 h2=>?_) Dq
  (fun jZ=>(T5 (fun h0=>jZ (by rw[h0];rfl))).2)
 obtain⟨i,hi⟩:=jI hl;obtain⟨y,hy,rfl⟩:=hmap i l hi;exact(hr3 i y hy).2.2.1;rw[hlen]at hi;have hq:i / sz<len:=Nat.div_lt_of_lt_mul (by rw[Y!];exact hi);have hm:=Nat.mod_lt i tJ;have OV:i / sz<r.length:=o?;have hy:r[i / sz]? =some r[i / sz]:=wK OV;have g:=Wg (i / sz) _ hy (i % sz) hm;rw[show i / sz*sz+i % sz=i from by rw[Y!];exact Nat.div_add_mod i sz]at g;rw[g,hy];simp only[qV];obtain⟨g1,_,g3,g4⟩:=hr3 _ _ hy;obtain⟨c1,_⟩:=XA g1;have:i % sz<(r[i / sz]).2.length:=o?;rw[wK this];rfl;obtain⟨y,hy,rfl⟩:=hmap i l h1;exact(hr3 i y hy).2.2.2.2.1 p (zc h2);obtain⟨y,hy,rfl⟩:=hmap i l h1;obtain⟨g1,_,g3,g4,g5,g6⟩:=hr3 i y hy;have hj:j<sz:=g3 ▸ (qL h2).1;have e1:(i*sz+j) / sz=i:=by rw[Y!,Nat.mul_add_div tJ,Nat.div_eq_of_lt hj,d!]
 have e2:(i*sz+j) % sz=j:=by rw[Y!,Nat.mul_add_mod,Nat.mod_eq_of_lt hj]
 have N5:j<y.2.length:=by rw[<- g4];omega
 simp only[e1,e2,hy,qV,wK N5,e!];exact g6 j p _ h2 (wK N5)
def rB{α:Type}(P:Program)(fs:List Field)(e:α->List PV)(ok:α->Prop)(n off:Nat):Prop:=
 ∀(H:Type)(enc:TypeId×Value->H)(w:World)(base:Nat)(spare:Nat->Bool)(held:Bool)(fuel:Nat)(cs:List Value),fuel<=n->off<=cs.length->
  (∀ f∈fs,∃ x,DataW.trod enc P w base spare held fuel f.type ((cs.drop f.offset).take (P.cellsOf f.type))=some x)->
  ∃(a:α)(m:Nat),ok a/\(e a).length=m/\off+m<=cs.length/\Dc w (e a) ((cs.drop off).take m)
theorem rB.nil(n off:Nat):rB P [] (fun _:Unit=>[]) (fun _=>True) n off:=by intro H enc w base spare held fuel cs _ ho _;exact⟨(),0,trivial,rfl,by simpa using ho,by simpa using Dc.nil⟩
theorem rB.cons{α β:Type}{f:Field}{fs:List Field}{e1:α->List PV}{ok1:α->Prop}{e2:β->List PV}{ok2:β->Prop}{n off c:Nat}(ho:f.offset=off)(hc:P.cellsOf f.type=c)
  (h1:zX P f.type e1 ok1 n) (h2:rB P fs e2 ok2 n (off+c)):rB P (f::fs) (fun x:α×β=>e1 x.1++e2 x.2) (fun x=>ok1 x.1/\ok2 x.2) n off:=by intro H enc w base spare held fuel cs hn oX OA;obtain⟨x,hx⟩:=OA f z?;rw[hc,ho]at hx;obtain⟨a,a1,a2,a3⟩:=h1 H enc w base spare held fuel _ x hn hx;rw[hc]at a2;have hl:=a3.1;rw[a2,List.length_take,List.length_drop]at hl;have rI:off+c<=cs.length:=o?;obtain⟨b,m,b1,b2,b3,b4⟩:=h2 H enc w base spare held fuel cs hn rI (fun f' Hf=>OA f' (by simp[Hf]));refine⟨(a,b),c+m,⟨a1,b1⟩,by simp[a2,b2],o?, ?_⟩;have:=a3.append b4;rwa[show (cs.drop off).take c++(cs.drop (off+c)).take m=(cs.drop off).take (c+m)from by rw[List.take_add,q0z]]at this
theorem zX.struct{α:Type}{t:TypeId}{fs:Array Field}{e:α->List PV}{ok:α->Prop}{n c:Nat}(ht:P.underlying t=some (.struct fs))(hc:P.cellsOf t=c)(hlen: ∀a,(e a).length=c)
  (h:rB P fs.toList e ok n 0):zX P t e ok (n+1):=by
 intro H enc w base spare held fuel cs x hn hx;obtain⟨xs,m,rfl,_,hl,hxl,hf⟩:=DataW.trod_struct ht hx;obtain⟨a,k,h1,h2,h3,h4⟩:=h H enc w base spare held m cs o? (E! _) (fun f hfm=>by
  obtain⟨i,hi⟩:=jI hfm
  have uj:fs[i]? =some f:=by rw[<- H?];exact hi
  have xS:i<xs.length:=by
   rw[hxl]
   exact(M!.1 uj).1
  exact⟨xs[i],by rw[hf i f uj,wK xS]⟩)
 have:k=c:=by rw[<- h2];exact hlen a
 subst this;refine⟨a,h1,by rw[h2,hc], ?_⟩;rwa[List.drop_zero,List.take_of_length_le (by rw[hl,hc];exact ju _)]at h4
end
end Go.Gm
namespace Go.Gm
open Go Go.ChangeShapes Go.WideShapes Go.RowKit
theorem QP{H:Type}{enc:TypeId×Value->H}{P:Program}(hl:laidOutB P=true){W W' :World}{sp' :Nat->Bool}:
  ∀{ts:List TypeId}{vs:List Value}{ds:List (DataW H)}{ps:List MemPlace},(∀ t∈ts,P.readableRec t=true/\t<P.types.size)->
  DataW.TrodAll enc P W 0 (fun _=>true) true ts vs ds ps->(∀ p∈ps,W.sameAt W' p)->(∀ p∈ps,sp' p.block=true)->DataW.TrodAll enc P W' 0 sp' true ts vs ds ps
 |[],vs,ds,ps,_,h,_,_=>by obtain⟨rfl,rfl,rfl⟩:=trodAll_nil h;exact trodAll_mk0
 |t::ts,vs,ds,ps,hr,h,hs,hp=>by
  obtain⟨v,ee,d,Sa,p,q,rfl,rfl,rfl,h1,h2⟩:=trodAll_cons h;have:=hr t z?;exact trodAll_cons_mk (WideElems.Trod_stays hl this.1 this.2 h1 (fun x hx=>hs x (by simp[hx])) (fun x hx=>hp x (by simp[hx])))
   (QP hl (fun t ht=>hr t (by simp[ht])) h2 (fun x hx=>hs x (by simp[hx])) (fun x hx=>hp x (by simp[hx])))
theorem JF{H:Type}{enc:TypeId×Value->H}{P:Program}{w:World}{base:Nat}{spare:Nat->Bool}{held:Bool}:
  ∀{ts:List TypeId}{vs:List Value}{ds:List (DataW H)}{ps:List MemPlace},DataW.TrodAll enc P w base spare held ts vs ds ps->ts.length=vs.length/\ds.length=ts.length
 |[],vs,ds,ps,h=>by obtain⟨rfl,rfl,rfl⟩:=trodAll_nil h;exact⟨rfl,rfl⟩
 |t::ts,vs,ds,ps,h=>by obtain⟨v,ee,d,Sa,p,q,rfl,rfl,rfl,h1,h2⟩:=trodAll_cons h;obtain⟨a,b⟩:=JF h2;exact⟨by simp[a],by simp[b]⟩
def dU{α:Type}(P:Program)(t:TypeId)(e:α->PV)(ok:α->Prop):Prop:=
 ∀(H:Type)(enc:TypeId×Value->H)(w:World)(base ZC:Nat)(spare:Nat->Bool)(held:Bool)(v:Value)(d:DataW H)(ps:List MemPlace),Value.okWide P w .any ZC t v->
  DataW.Trod enc P w base spare held t v d ps-> ∃a:α,ok a/\RP w (U4 w) (e a) v
theorem dU.struct{α:Type}{P:Program}{t:TypeId}{fs:Array Field}{e:α->List PV}{ok:α->Prop}(ht:P.underlying t=some (.struct fs))(h: ∀n,zX P t e ok n):dU P t (fun a=> .agg (e a)) ok:=by intro H enc w base ZC spare held v d ps dx ⟨fuel,hv⟩;simp only[Value.okWide,ht]at dx;obtain⟨cs,rfl,_,_⟩:=dx;obtain⟨a,h1,h2,h3⟩:=h fuel H enc w base spare held fuel _ _ (ju _) hv;refine⟨a,h1, ?_⟩;obtain⟨l⟩:=cs;exact .agg _ _ h3.1 h3.2.1 h3.2.2
def oneD:TypeDesc->Bool
 | .bool| .int _| .string| .slice _=>true
 |_=>false
theorem dU.one{α:Type}{P:Program}{t:TypeId}{td:TypeDesc}{e:α->PV}{ok:α->Prop}(ht:P.underlying t=some td)(hd:oneD td=true)(h: ∀n,zX P t (fun a=>[e a]) ok n):dU P t e ok:=by
 intro H enc w base ZC spare held v d ps dx ⟨fuel,hv⟩;obtain⟨a,h1,h2,h3⟩:=h fuel H enc w base spare held fuel _ _ (ju _) hv;refine⟨a,h1, ?_⟩;have hc:v.cells= #[v]:=by simp only[Value.okWide,ht]at dx;cases td<;>simp[oneD]at hd<;>simp only[Cell.okWide,ht]at dx<;>cases v<;>simp_all [Cell.ok,Value.cells]
 exact h3.2.2 0 _ v rfl (by rw[hc];rfl)
def uW{β:Type}(P:Program)(ts:List TypeId)(e:β->List PV)(ok:β->Prop):Prop:=
 ∀(H:Type)(enc:TypeId×Value->H)(w:World)(base ZC:Nat)(spare:Nat->Bool)(held:Bool)(vs:List Value)(ds:List (DataW H))(ps:List MemPlace),
  (∀(j:Nat) t v,ts[j]? =some t->vs[j]? =some v->Value.okWide P w .any ZC t v)->DataW.TrodAll enc P w base spare held ts vs ds ps->
  ∃b:β,ok b/\(e b).length=vs.length/\ ∀(i:Nat) p v,(e b)[i]? =some p->vs[i]? =some v->RP w (U4 w) p v
theorem uW.nil{P:Program}:uW P [] (fun _:Unit=>[]) (fun _=>True):=by intro H enc w base ZC spare held vs ds ps _ h;obtain⟨rfl,rfl,rfl⟩:=trodAll_nil h;exact⟨(),trivial,rfl,z?⟩
theorem uW.cons{α β:Type}{P:Program}{t:TypeId}{ts:List TypeId}{e1:α->PV}{ok1:α->Prop}{e2:β->List PV}{ok2:β->Prop}(h1:dU P t e1 ok1)(h2:uW P ts e2 ok2):
  uW P (t::ts) (fun x:α×β=>e1 x.1::e2 x.2) (fun x=>ok1 x.1/\ok2 x.2):=by intro H enc w base ZC spare held vs ds ps dx h;obtain⟨v,ee,d,Sa,p,q,rfl,rfl,rfl,r1,r2⟩:=trodAll_cons h;obtain⟨a,a1,a2⟩:=h1 H enc w base ZC spare held v d p (dx 0 t v rfl rfl) r1;obtain⟨b,b1,b2,b3⟩:=h2 H enc w base ZC spare held ee Sa q (fun j t v x y=>dx (j+1) t v (by simpa using x) (by simpa using y)) r2;refine⟨(a,b),⟨a1,b1⟩,by simp[b2],fun i x y hx hy=>?_⟩;cases i with|zero=>simp at hx hy;subst hx;subst hy;exact a2|succ i=>exact b3 i x y (by simpa using hx) (by simpa using hy)
theorem Hl[xn]{P:Program}{G:GP}{S:mX}(hm:P.follows .mixedOrders=true)(hG:yE P G)(hF:D8 P G)(hS:Q1 P S)(hl:laidOutB P=true)
  {f:FuncId} {fn:Func} {tb:TypeId} (hres:fn.resultTypes= #[tb]) (htb:P.underlying tb=some .bool) {s:ChangeSpec} (hvars:s.vars=[])
  (hread: ∀t∈fn.params.toList,P.readableRec t=true/\t<P.types.size)
  (OZ: ∀(H:Type)(ds:List (DataW H)),ds.length=fn.params.toList.length->s.fn H ds={ results:=[.lit (.bool true)],args:=ds })
  {β:Type} {e:β->List PV} {ok:β->Prop} (Sn:uW P fn.params.toList e ok)
  (dj: ∀b,ok b-> ∃H',(omega G S).call f ((e b).map .pv) []=some (.pv (.bool true),H'))
  {H:Type} {enc:TypeId×Value->H} {W:World} {base:Nat} {args:Array Value} {ds gs:List (DataW H)} {before:List MemPlace}
  (K1: ∀(j:Nat) t v,fn.params[j]? =some t->args[j]? =some v->Value.okWide P W .any base t v)
  (hW:DataW.Whole enc P fn.params.toList s.vars false W args.toList ds gs before) (hgl:xn.ok W/\ ∀b,xn.on b->b<W.heap.size):
  Calls P f args W fun e W' => ∃v,e= .returned v/\s.post enc P fn false true false false W args v W' :=by
 have hW' :=hW;obtain⟨p,q,hA,hV,rfl,hfz,Ef⟩:=hW;obtain⟨vs⟩:=args;rw[hvars]at hV;obtain⟨rfl,rfl⟩:=trodVars_none hV;obtain⟨hl1,T1⟩:=JF hA;obtain⟨b,b1,b2,b3⟩:=Sn H enc W 0 base _ _ vs ds p (fun j t v h1 h2=>K1 j t v (by rw[<- H?];exact h1) (by rw[<- H?];exact h2)) hA;obtain⟨H',hc⟩:=dj b b1;have dx:=omega_ok hm hG hF hS hc W (fun _=>⟨0,0,[]⟩) (U4 W) vs (old_inv W _ hgl) (by simpa using b2) (fun i x v h1 h2=>by
  simp only[K?,yZ]at h1
  obtain⟨y,hy,rfl⟩:=h1
  exact .pv _ _ (b3 i y v hy h2))
 refine dx.mono fun en W'⟨v,ι',kh,h1,h2,h3,h4⟩=>?_;subst h1;have hv:v= .bool true:=by have:=h4.gO;cases this;rfl
 subst hv;have OI: ∀k,k<W.heap.size->W'.heap[k]? =W.heap[k]? :=fun k hk=>h3.kR k hk fun β x hx=>by cases hx
 have xS: ∀x∈p,x.block<W.heap.size:=fun x hx=>hW'.lt x (by simp[hx]);have Jp: ∀x∈p,W.sameAt W' x:=fun x hx=>by cases x with|cell b o=>exact World.cell?_of_block (w:=W) (OI b (xS _ hx))|map b=>exact OI b (xS _ hx)
 refine⟨_,rfl,ds,[],p++[],[],p,[],hW', ?_, ?_, ?_, ?_,fun h=>by cases h⟩;rw[F_,OZ H ds T1,hres];exact trodAll_cons_mk (shut_bool htb true) trodAll_mk0;rw[F_,OZ H ds T1];exact QP hl hread hA Jp (fun x hx=>by simpa using xS x hx);rw[hvars];rw[F_,OZ H ds T1];rfl;refine⟨h3.io.1,h3.io.2,fun i hi=>?_⟩;rw[OI i hi];split<;>simp_all
end Go.Gm
namespace Go.Gm
open Go
structure Iu (b:Bool):Prop where
 h:b=true
inductive Fr where
 |code (c:Code)
 |upto (id:Nat)
 |pN (l:List D7)
def cont(G:GP)(O:xt)(f:FuncId):List Fr->Ex×St->Option (Ex×St)
 |[],x=>some x
 | .upto id::r,(.exit i,s)=>if i=id then cont G O f r (.normal,s)else cont G O f r (.exit i,s)
 | .upto _::r,(.normal,s)=>cont G O f r (.normal,s)
 | .upto _::r,(.ret,s)=>cont G O f r (.ret,s)
 | .pN l::r,(.normal,s)=>cont G O f r (.normal,Gm.pN l s)
 | .pN _::r,(.exit i,s)=>cont G O f r (.exit i,s)
 | .pN _::r,(.ret,s)=>cont G O f r (.ret,s)
 | .code c::r,(.normal,s)=>match exec G O f c s with
  |some x=>cont G O f r x
  |none=>none
 | .code _::r,(.exit i,s)=>cont G O f r (.exit i,s)
 | .code _::r,(.ret,s)=>cont G O f r (.ret,s)
def WM(G:GP)(O:xt)(f:FuncId)(all l:List Oper)(s:St)(r:List Fr):Option (Ex×St):=
 match Xy G O all l s with
 |some s' =>cont G O f r (.normal,s')
 |none=>none
def K5(G:GP)(O:xt)(f:FuncId)(all:List Oper)(tm:Bool)(i:Nat)(l:List Oper)(s:St)(log:List (Nat×List Nat×List Nat))(r:List Fr):Option (Ex×St):=
 match dX G O all tm i l s log with
 |some s' =>cont G O f r (.normal,s')
 |none=>none
def effX(G:GP)(O:xt)(f:FuncId)(all l:List Oper)(d:Option Tmp)(E:yu)(H:qp)(r:List Fr):Option my->Option (Ex×St)
 |some (v,ws,nx)=>WM G O f all l ⟨fp d v E,za ws H,nx⟩ r
 |none=>none
def effD(G:GP)(O:xt)(f:FuncId)(all:List Oper)(tm:Bool)(i:Nat)(l:List Oper)(d:Option Tmp)(E:yu)(H:qp)(rd:List Nat)(log:List (Nat×List Nat×List Nat))(r:List Fr):Option my->Option (Ex×St)
 |some (v,ws,nx)=>K5 G O f all tm i l ⟨fp d v E,za (eG tm rd H ws) H,nx⟩ ((i-1,rd,(eG tm rd H ws).map (·.1))::log) r
 |none=>none
section
variable {G:GP} {O:xt} {f:FuncId}
theorem X_one(c:Code)(s:St):exec G O f c s=cont G O f [.code c] (.normal,s):=by simp only[cont];split<;>simp_all
theorem X_nil(x:Ex×St):cont G O f [] x=some x:=rfl
theorem X_uptoN(id:Nat)(r:List Fr)(s:St):cont G O f (.upto id::r) (.normal,s)=cont G O f r (.normal,s):=rfl
theorem X_uptoR(id:Nat)(r:List Fr)(s:St):cont G O f (.upto id::r) (.ret,s)=cont G O f r (.ret,s):=rfl
theorem X_uptoE(id i:Nat)(r:List Fr)(s:St):cont G O f (.upto id::r) (.exit i,s)=if i=id then cont G O f r (.normal,s)else cont G O f r (.exit i,s):=rfl
theorem X_codeR(c:Code)(r:List Fr)(s:St):cont G O f (.code c::r) (.ret,s)=cont G O f r (.ret,s):=rfl
theorem X_codeE(c:Code)(i:Nat)(r:List Fr)(s:St):cont G O f (.code c::r) (.exit i,s)=cont G O f r (.exit i,s):=rfl
theorem X_skip(r:List Fr)(s:St):cont G O f (.code .skip::r) (.normal,s)=cont G O f r (.normal,s):=rfl
theorem X_ret(r:List Fr)(s:St):cont G O f (.code .ret::r) (.normal,s)=cont G O f r (.ret,s):=rfl
theorem X_exit(i:Nat)(r:List Fr)(s:St):cont G O f (.code (.exit i)::r) (.normal,s)=cont G O f r (.exit i,s):=rfl
theorem X_seq(a b:Code)(r:List Fr)(s:St):cont G O f (.code (.seq a b)::r) (.normal,s)=cont G O f (.code a:: .code b::r) (.normal,s):=by simp only[cont,exec];cases exec G O f a s with|none=>rfl|some x=>obtain⟨e,s'⟩:=x;cases e<;>rfl
theorem X_cond(c:Operand)(t e:Code)(r:List Fr)(s:St):cont G O f (.code (.cond c t e)::r) (.normal,s)=match ev s.env c with
  | .pv (.bool b)=>if b=true then cont G O f (.code t::r) (.normal,s)else cont G O f (.code e::r) (.normal,s)
  |_=>none:=by
 simp only[cont,exec];cases ev s.env c with
 |pv p=>cases p with
  |bool b=>cases b<;>rfl
  |_=>rfl
 |_=>rfl
def Lj:Code->Bool
 | .loop _=>true
 |_=>false
theorem o4(id:Nat)(c:Code)(r:List Fr)(s:St)(hl:Lj c=false):cont G O f (.code (.block id c)::r) (.normal,s)=cont G O f (.code c:: .upto id::r) (.normal,s):=by
 have hex:exec G O f (.block id c) s=match exec G O f c s with
   |some (.exit i,s')=>if i=id then some (.normal,s')else some (.exit i,s')
   |some (.normal,s')=>some (.normal,s')
   |some (.ret,s')=>some (.ret,s')
   |none=>none:=by
  cases c<;>first|rfl|(simp [Lj]at hl)
 simp only[cont,hex];cases exec G O f c s with|none=>rfl|some x=>obtain⟨e,s'⟩:=x;cases e with|exit i=>by_cases h:i=id<;>simp[cont,h]|_=>rfl
theorem IB(id:Nat)(a b:Code)(r:List Fr)(s:St):cont G O f (.code (.block id (.seq a b))::r) (.normal,s)=cont G O f (.code (.seq a b):: .upto id::r) (.normal,s):=o4 _ _ _ _ rfl
theorem Ix(id i:Nat)(a:Code)(r:List Fr)(s:St):cont G O f (.code (.block id (.block i a))::r) (.normal,s)=cont G O f (.code (.block i a):: .upto id::r) (.normal,s):=o4 _ _ _ _ rfl
theorem Iy(id:Nat)(c:Operand)(a b:Code)(r:List Fr)(s:St):cont G O f (.code (.block id (.cond c a b))::r) (.normal,s)=cont G O f (.code (.cond c a b):: .upto id::r) (.normal,s):=o4 _ _ _ _ rfl
theorem IA(id i:Nat)(a:Array Oper)(d:Bool)(r:List Fr)(s:St):cont G O f (.code (.block id (.region i a d))::r) (.normal,s)=cont G O f (.code (.region i a d):: .upto id::r) (.normal,s):=o4 _ _ _ _ rfl
theorem ID(id i:Nat)(r:List Fr)(s:St):cont G O f (.code (.block id (.exit i))::r) (.normal,s)=cont G O f (.code (.exit i):: .upto id::r) (.normal,s):=o4 _ _ _ _ rfl
theorem Iz(id:Nat)(r:List Fr)(s:St):cont G O f (.code (.block id .skip)::r) (.normal,s)=cont G O f r (.normal,s):=by rw[o4 _ _ _ _ rfl];rfl
theorem IC(id:Nat)(r:List Fr)(s:St):cont G O f (.code (.block id .ret)::r) (.normal,s)=cont G O f r (.ret,s):=by rw[o4 _ _ _ _ rfl];rfl
def Lx(G:GP)(O:xt)(f:FuncId)(id:Nat)(r:List Fr):Option St->Option (Ex×St)
 |some s=>match O.loop f id s with
  |some x=>cont G O f r x
  |none=>none
 |none=>none
theorem X_loop(id:Nat)(c:Code)(r:List Fr)(s:St):cont G O f (.code (.block id (.loop c))::r) (.normal,s)=Lx G O f id r (ej (G.spec f id) s):=by simp only[cont,exec,Lx];cases ej (G.spec f id) s with|none=>rfl|some s1=>rfl
theorem Tk(id:Nat)(r:List Fr)(s:St):Lx G O f id r (some s)=match O.loop f id s with
  |some x=>cont G O f r x
  |none=>none:=rfl
theorem Of(l o p q r s):ej ⟨l,o,p,q,r,0⟩ s=some (enter ⟨l,o,p,q,r,0⟩ s):=rfl
theorem again_0(l o p q r n s):again ⟨l,o,p,q,r,0⟩ n s=narrow l n s:=rfl
theorem leave_0(l o p q r n s):leave ⟨l,o,p,q,r,0⟩ n s=some (eX o n s):=rfl
def Xb(n:Nat):Option St->Option St
 |some s1=>if s1.nx=n then some s1 else none
 |none=>none
theorem Ru(n:Nat)(E H k):Xb n (some ⟨E,H,k⟩)=if k=n then some ⟨E,H,k⟩else none:=rfl
theorem Og(l o p q r s):ej ⟨l,o,p,q,r,1⟩ s=Xb (s.nx+1) (canon l s.nx (enter ⟨l,o,p,q,r,1⟩ s)):=rfl
theorem Oh(l o p q r s):ej ⟨l,o,p,q,r,2⟩ s=Xb (s.nx+2) (canon l s.nx (enter ⟨l,o,p,q,r,2⟩ s)):=rfl
theorem Oi(l o p q r s):ej ⟨l,o,p,q,r,3⟩ s=Xb (s.nx+3) (canon l s.nx (enter ⟨l,o,p,q,r,3⟩ s)):=rfl
theorem Oj(l o p q r s):ej ⟨l,o,p,q,r,4⟩ s=Xb (s.nx+4) (canon l s.nx (enter ⟨l,o,p,q,r,4⟩ s)):=rfl
theorem again_1(l o p q r n s):again ⟨l,o,p,q,r,1⟩ n s=Xb n (canon l (n-1) (xl q (ku p s))):=rfl
theorem again_2(l o p q r n s):again ⟨l,o,p,q,r,2⟩ n s=Xb n (canon l (n-2) (xl q (ku p s))):=rfl
theorem again_3(l o p q r n s):again ⟨l,o,p,q,r,3⟩ n s=Xb n (canon l (n-3) (xl q (ku p s))):=rfl
theorem again_4(l o p q r n s):again ⟨l,o,p,q,r,4⟩ n s=Xb n (canon l (n-4) (xl q (ku p s))):=rfl
theorem leave_1(l o p q r n s):leave ⟨l,o,p,q,r,1⟩ n s=canon o (n-1) s:=rfl
theorem leave_2(l o p q r n s):leave ⟨l,o,p,q,r,2⟩ n s=canon o (n-2) s:=rfl
theorem leave_3(l o p q r n s):leave ⟨l,o,p,q,r,3⟩ n s=canon o (n-3) s:=rfl
theorem leave_4(l o p q r n s):leave ⟨l,o,p,q,r,4⟩ n s=canon o (n-4) s:=rfl
def keptL(l:List Nat)(n:Nat)(s:St):Option St:=if n<=s.nx then some { s with env:=restrict s.env l }else none
theorem keptL_S(l:List Nat)(n E H k):keptL l n ⟨E,H,k⟩=if n<=k then some ⟨restrict E l,H,k⟩else none:=rfl
theorem Pz(l o p q r n s):again ⟨l,o,p,q,r,1000⟩ n s=keptL l n (xl q (ku p s)):=by unfold again;rw[if_pos rfl];rfl
theorem X_cmds0(r:List Fr)(s:St):cont G O f (.pN []::r) (.normal,s)=cont G O f r (.normal,s):=rfl
theorem X_cmdsC(c:D7)(l:List D7)(r:List Fr)(s:St):cont G O f (.pN (c::l)::r) (.normal,s)=cont G O f (.pN l::r) (.normal,VO c s):=rfl
theorem IE(id:Nat)(ops:Array Oper)(r:List Fr)(s:St):cont G O f (.code (.region id ops false)::r) (.normal,s)=WM G O f ops.toList ops.toList (pN (G.cmd f (2*id)) s) (.pN (G.cmd f (2*id+1))::r):=by simp only[cont,exec,WM];cases Xy G O ops.toList ops.toList (pN (G.cmd f (2*id)) s)<;>rfl
theorem De(id:Nat)(ops:Array Oper)(r:List Fr)(s:St):cont G O f (.code (.region id ops true)::r) (.normal,s)=K5 G O f ops.toList (lW (G.pre f id)) 0 ops.toList (pres G f id (pN (G.cmd f (2*id)) s)) [] (.pN (G.cmd f (2*id+1))::r):=by simp only[cont,exec,K5];cases dX G O ops.toList (lW (G.pre f id)) 0 ops.toList (pres G f id (pN (G.cmd f (2*id)) s)) []<;>rfl
theorem pres_S(f:FuncId)(id:Nat)(E:yu)(H:qp)(nx:Nat):pres G f id ⟨E,H,nx⟩=gf (di E H (G.pre f id)) ⟨E,H,nx⟩:=rfl
theorem Y_nil(all:List Oper)(s:St)(r:List Fr):WM G O f all [] s r=cont G O f r (.normal,s):=rfl
theorem Y_op(all:List Oper)(d:Option Tmp)(o:Op)(ty:TypeId)(ps:String)(af:Array Edge)(l:List Oper)(E:yu)(H:qp)(nx:Nat)(r:List Fr):
  WM G O f all (⟨d,o,ty,ps,af,none⟩::l) ⟨E,H,nx⟩ r=match gf (NF G o E) ⟨E,H,nx⟩with
   |⟨E',H',n'⟩=>effX G O f all l d E' H' r (mz G O o E' H' n'):=by
 simp only[WM,Xy,yF,Xe];generalize gf (NF G o E) ⟨E,H,nx⟩=s;obtain⟨E',H',n'⟩:=s;simp only;cases mz G O o E' H' n' with
 |none=>rfl
 |some e=>obtain⟨v,ws,k⟩:=e;rfl
theorem Y_guard(all:List Oper)(d:Option Tmp)(o:Op)(ty:TypeId)(ps:String)(af:Array Edge)(g:Nat×Bool)(l:List Oper)(E:yu)(H:qp)(nx:Nat)(r:List Fr):
  WM G O f all (⟨d,o,ty,ps,af,some g⟩::l) ⟨E,H,nx⟩ r=match yF all ⟨d,o,ty,ps,af,some g⟩ E with
   |some b=>if b=true then WM G O f all (⟨d,o,ty,ps,af,none⟩::l) ⟨E,H,nx⟩ r else WM G O f all l ⟨fp d (.xW []) E,H,nx⟩ r
   |none=>none:=by
 simp only[WM,Xy];cases yF all ⟨d,o,ty,ps,af,some g⟩ E with
 |none=>rfl
 |some b=>cases b<;>simp[yF,Xe]
theorem PX(all:List Oper)(d:Option Tmp)(o:Op)(ty:TypeId)(ps:String)(af:Array Edge)(j:Nat)(w:Bool)(E:yu):
  yF all ⟨d,o,ty,ps,af,some (j,w)⟩ E=match all[j]? with
   |some oj=>match oj.dst with
    |some d=>match E.get d with
     | .pv (.bool b)=>some (b==w)
     | .xW []=>some false
     |_=>none
    |none=>some false
   |none=>some false:=rfl
theorem Z_nil(all:List Oper)(tm:Bool)(i:Nat)(s:St)(log:List (Nat×List Nat×List Nat))(r:List Fr)(h:Iu (mC (wR [] all) log)):K5 G O f all tm i [] s log r=cont G O f r (.normal,s):=by simp only[K5,dX,h.h,if_true]
theorem Z_op(all:List Oper)(tm:Bool)(i:Nat)(d:Option Tmp)(o:Op)(ty:TypeId)(ps:String)(af:Array Edge)(l:List Oper)(E:yu)(H:qp)(nx:Nat)(log:List (Nat×List Nat×List Nat))(r:List Fr):
  K5 G O f all tm i (⟨d,o,ty,ps,af,none⟩::l) ⟨E,H,nx⟩ log r=effD G O f all tm (i+1) l d E H (tw o E H) log r (mz G O o E H nx):=by simp only[K5,dX,yF];cases mz G O o E H nx with|none=>rfl|some e=>obtain⟨v,ws,k⟩:=e;rfl
theorem Z_guard(all:List Oper)(tm:Bool)(i:Nat)(d:Option Tmp)(o:Op)(ty:TypeId)(ps:String)(af:Array Edge)(g:Nat×Bool)(l:List Oper)(E:yu)(H:qp)(nx:Nat)(log:List (Nat×List Nat×List Nat))(r:List Fr):
  K5 G O f all tm i (⟨d,o,ty,ps,af,some g⟩::l) ⟨E,H,nx⟩ log r=match yF all ⟨d,o,ty,ps,af,some g⟩ E with
   |some b=>if b=true then K5 G O f all tm i (⟨d,o,ty,ps,af,none⟩::l) ⟨E,H,nx⟩ log r else K5 G O f all tm (i+1) l ⟨fp d (.xW []) E,H,nx⟩ log r
   |none=>none:=by
 simp only[K5,dX];cases yF all ⟨d,o,ty,ps,af,some g⟩ E with
 |none=>rfl
 |some b=>cases b<;>simp[yF,Xe]
theorem DJ(all l:List Oper)(d:Option Tmp)(E:yu)(H:qp)(r:List Fr)(v:AV)(ws:List (Nat×qJ))(nx:Nat):
  effX G O f all l d E H r (some (v,ws,nx))=WM G O f all l ⟨fp d v E,za ws H,nx⟩ r:=rfl
theorem DI(all l:List Oper)(d:Option Tmp)(E:yu)(H:qp)(r:List Fr):effX G O f all l d E H r none=none:=rfl
theorem DH(all:List Oper)(i:Nat)(l:List Oper)(d:Option Tmp)(E:yu)(H:qp)(rd:List Nat)(log:List (Nat×List Nat×List Nat))(r:List Fr)(v:AV)(ws:List (Nat×qJ))(nx:Nat):
  effD G O f all false (i+1) l d E H rd log r (some (v,ws,nx))=K5 G O f all false (i+1) l ⟨fp d v E,za ws H,nx⟩ ((i,rd,ws.map (·.1))::log) r:=rfl
theorem trimOff(l:List Nat)(h:lW l=false):lW l=false:=h
theorem bool_tt:(true==true)=true:=rfl
theorem bool_ff:(false==false)=true:=rfl
theorem bool_ft:(false==true)=false:=rfl
theorem bool_tf:(true==false)=false:=rfl
def aj(G:GP)(O:xt)(f:FuncId)(id n:Nat):Option (Ex×St)->Option (Ex×St)
 |some (.normal,s')=>match again (G.spec f id) n (gf (di s'.env s'.heap (G.spec f id).freeze) s')with
  |some s'' =>O.loop f id s''
  |none=>none
 |some (.exit i,s')=>if i=id then left .normal (leave (G.spec f id) n s')else left (.exit i) (leave (G.spec f id) n s')
 |some (.ret,s')=>left .ret (leave (G.spec f id) n s')
 |none=>none
theorem Rn(id n:Nat)(s:St):aj G O f id n (some (.normal,s))=match again (G.spec f id) n (gf (di s.env s.heap (G.spec f id).freeze) s)with|some s'' =>O.loop f id s'' |none=>none:=rfl
theorem Rm(id n i:Nat)(s:St):aj G O f id n (some (.exit i,s))=if i=id then left .normal (leave (G.spec f id) n s)else left (.exit i) (leave (G.spec f id) n s):=rfl
theorem Ro(id n:Nat)(s:St):aj G O f id n (some (.ret,s))=left .ret (leave (G.spec f id) n s):=rfl
theorem left_S(ex:Ex)(s:St):left ex (some s)=some (ex,s):=rfl
theorem L_step{fi:FI}(XG:G.fn f=some fi){id:Nat}{c:Code}(hc:zQ fi.body id=some c)(s:St):
  mK G O f id s=aj G O f id s.nx (cont G O f [.code c] (.normal,s)):=by unfold mK;rw[XG];simp only[hc,X_one];cases cont G O f [.code c] (.normal,s)with|none=>rfl|some x=>obtain⟨e,s'⟩:=x;cases e<;>rfl
def fnE(G:GP)(f:FuncId)(m:Nat)(res:List ResultVar)(s:St):Option (AV×qp):=
 match ai G s res with
 |some vs=>finish m (G.sk f) (lX vs) s
 |none=>none
def Yy(G:GP)(f:FuncId)(m:Nat)(res:List ResultVar):Option (Ex×St)->Option (AV×qp)
 |some (.exit _,_)=>none
 |some (_,s)=>fnE G f m res (pN (G.cmd f 999999) s)
 |none=>none
theorem fnEnd_N(m:Nat)(res:List ResultVar)(s:St):Yy G f m res (some (.normal,s))=fnE G f m res (pN (G.cmd f 999999) s):=rfl
theorem fnEnd_R(m:Nat)(res:List ResultVar)(s:St):Yy G f m res (some (.ret,s))=fnE G f m res (pN (G.cmd f 999999) s):=rfl
theorem fnE_S(m:Nat)(res:List ResultVar)(E:yu)(H:qp)(nx:Nat):fnE G f m res ⟨E,H,nx⟩=match ai G ⟨E,H,nx⟩ res with|some vs=>finish m (G.sk f) (lX vs) ⟨E,H,nx⟩|none=>none:=rfl
theorem F_step{fi:FI}(XG:G.fn f=some fi){H:qp}(hk:uU 0 H=true)(args:List AV):
  lQ G O f args H=Yy G f H.length fi.results (cont G O f [.code fi.body] (.normal,⟨rF 0 args,H,H.length⟩)):=by unfold lQ;rw[XG];simp only[hk,if_true,X_one];cases cont G O f [.code fi.body] (.normal,⟨rF 0 args,H,H.length⟩)with|none=>rfl|some x=>obtain⟨e,s'⟩:=x;cases e<;>rfl
theorem SV{S:mX}{nt:Nat}{ob:Option Code}{ra:Array ResultVar}(hs:S.call f=none)(XG:G.fn f=some ⟨nt,ra.toList,ob.get!⟩){c:Code}(hc:ob=some c){rs:List ResultVar}(hr:ra=⟨rs⟩){H:qp}
  (hk:uU 0 H=true) {args:List AV} {r:Option (AV×qp)}
  (h:Yy G f H.length rs (cont G (omega G S) f [.code c] (.normal,⟨rF 0 args,H,H.length⟩))=r):(omega G S).call f args H=r:=by subst hc hr;rw[Tz hs,F_step XG hk];exact h
theorem SW{S:mX}{fi:FI}(XG:G.fn f=some fi){id:Nat}{c:Code}(hc:zQ fi.body id=some c){s:St}{r:Option (Ex×St)}
  (h:aj G (omega G S) f id s.nx (cont G (omega G S) f [.code c] (.normal,s))=r):(omega G S).loop f id s=r:=by rw[TA,L_step XG hc];exact h
end
end Go.Gm
namespace Go.Gm
open Go Go.RowKit Go.Maps
set_option maxRecDepth 10000
def Ni:List (PV×PV×Nat)->Option (List Int)
 |[]=>some []
 |(.int .i64 k,_,_)::r=>match Ni r with
  |some l=>some (k::l)
  |none=>none
 |_=>none
def Ta(x:Int):List Int->List Int
 |[]=>[x]
 |y::r=>if x<=y then x::y::r else y::Ta x r
def pJ:List Int->List Int
 |[]=>[]
 |x::r=>Ta x (pJ r)
theorem XM(x:Int): ∀l,(Ta x l).Perm (x::l)
 |[]=> .refl _
 |y::r=>by simp only[Ta];split;exact .refl _;exact((XM x r).cons y).trans (.swap x y r)
theorem Zg: ∀l,(pJ l).Perm l
 |[]=> .refl _
 |x::r=>(XM x _).trans ((Zg r).cons x)
theorem SD(x:Int): ∀l,l.Pairwise (· <= ·)->(Ta x l).Pairwise (· <= ·)
 |[],_=>by simp[Ta]
 |y::r,h=>by simp only[Ta];rw[w!]at h;split;rename_i hxy;refine w!.2 ⟨fun z hz=>?_,w!.2 h⟩;rcases U?.1 hz with rfl|hz;exact hxy;exact q0d hxy (h.1 z hz);rename_i hxy;refine w!.2 ⟨fun z hz=>?_,SD x r h.2⟩;rcases U?.1 ((XM x r).mem_iff.1 hz)with rfl|hz;omega;exact h.1 z hz
theorem Mv: ∀l,(pJ l).Pairwise (· <= ·)
 |[]=> .nil
 |x::r=>SD x _ (Mv r)
theorem Mw(l l' :List Int)(h:l'.Perm l):l'.mergeSort (fun x y=>decide (x<=y))=pJ l:=by
 have tr: ∀a b c:Int,decide (a<=b)=true->decide (b<=c)=true->decide (a<=c)=true:=fun a b c h1 h2=>by simp only[decide_eq_true_eq]at *; exact q0d h1 h2
 have to: ∀a b:Int,(decide (a<=b) || decide (b<=a))=true:=fun a b=>by simp only[j!,decide_eq_true_eq];exact Int.le_total a b
 refine List.Perm.eq_of_pairwise (le:=fun a b=>a<=b) (fun a b _ _ h1 h2=>Int.le_antisymm h1 h2) ?_ (Mv l) (((List.mergeSort_perm l' _).trans h).trans (Zg l).symm);have:=List.pairwise_mergeSort tr to l';exact this.imp fun h=>by simpa using h
def SF(ks:List Int)(st:List Nat)(zN:Nat):Bool:=
 decide ks.Nodup&&ks.all (fun k=>decide (-9223372036854775808<=k)&&decide (k<=9223372036854775807))&&decide st.Nodup&&st.all (fun b=>decide (b<zN))&&decide (ks.length<=1099511627776)
def sf:List (PV×PV×Nat)->List Nat
 |[]=>[]
 |e::r=>e.2.2::sf r
def Va(fk:FuncId)(args:List AV)(H:qp):Option (AV×qp):=
 match args,H with
 |[.Q3 g [] [.ptr 0 0]],[(0,.box [.map 1]),(1,.map es zN)]=>match Ni es with
  |some ks=>if g=fk/\SF ks (sf es) zN=true then some (.row 2 (pJ ks).length 0 (pJ ks).length,[(0,.box [.map 1]),(1,.map es zN),(2,.row (pJ ks).isEmpty (xd 1 (pJ ks)) ((pJ ks).map fun k=>[.int .i64 k]))])else none
  |none=>none
 |_,_=>none
theorem YL: ∀{es:List (PV×PV×Nat)}{ks:List Int},Ni es=some ks->ks.length=es.length/\ ∀(i:Nat)(k x:PV)(b:Nat),es[i]? =some (k,x,b)-> ∃n,ks[i]? =some n/\k= .int .i64 n
 |[],ks,h=>by cases h;exact⟨rfl,z?⟩
 |(p,v,b)::r,ks,h=>by cases p with|int kd k=>(cases kd<;>simp only[Ni]at h<;>try cases h);split at h;(rename_i l hl;cases h;obtain⟨h1,h2⟩:=YL hl;refine⟨by simp[h1],fun i k' x b' hi=>?_⟩;cases i with|zero=>simp at hi;obtain⟨rfl,_⟩:=hi;exact⟨k,rfl,rfl⟩|succ i=>simpa using h2 i k' x b' (by simpa using hi));cases h|_=>simp[Ni]at h
theorem oH: ∀es,sf es=es.map (·.2.2)
 |[]=>rfl
 |e::r=>by simp[sf,oH r]
theorem Nd{H:Type}(x:Lit×DataW H): ∀l,(DataW.insert x l).Perm (x::l)
 |[]=> .refl _
 |y::r=>by simp only[DataW.insert];split;exact .refl _;exact((Nd x r).cons y).trans (.swap x y r)
theorem XN{H:Type}: ∀l:List (Lit×DataW H),(l.foldr DataW.insert []).Perm l
 |[]=> .refl _
 |x::r=>(Nd x _).trans ((XN r).cons x)
theorem zf.below[xn]{w w' :World}{H:qp}{ι:yv}{Im:Nat->Prop}(hi:zf w H ι Im)(hb:Below w.heap.size w w'):
    zf w' H ι (fun b=>Im b\/(w.heap.size<=b/\b<w'.heap.size))/\vj w H ι Im w' H ι (fun b=>Im b\/(w.heap.size<=b/\b<w'.heap.size)):=by
  have he:vj w H ι Im w' H ι (fun b=>Im b\/(w.heap.size<=b/\b<w'.heap.size)):={
    comp:=fun β b h=>⟨b,h,gb b _⟩
    im:=fun _ h=> .inl h
    pX:=fun b h=>h.elim .inl fun h=> .inr (.inl h.1)
    nS:=fun β x z h hu=> .inr ⟨β,x,h,hu⟩
    kR:=fun b h _=>hb.block b h
    size:=hb.size
    io:=⟨hb.os,hb.output⟩ }
  have xS: ∀β b z,H.get β=some b->b.yi (ι β) z->z<w.heap.size:=fun β b z hB hu=>(hi.ru β b hB).cn hu
  refine⟨⟨fun β b hB=>?_,hi.inj,fun b h=>?_,fun β b z hB hu h=>?_,xn.go hi.N0 hi.VS fun b hb=>he.ZS hi b hb,fun b hb=> .inl (hi.VS b hb)⟩,he⟩
  · exact(hi.ru β b hB).mono hi he fun hu=>⟨rfl,fun x hx=>hb.block _ (xS β b x hB hx)⟩
  · rcases h with h|h
    · exact N! (hi.im b h) hb.size
    · exact h.2
  · rcases h with h|h
    · exact hi.Vt β b z hB hu h
    · have:=xS β b z hB hu
      omega
theorem My[xn]{P:Program}{fs fk:FuncId}{kt:TypeId}(hkt:P.underlying kt=some (.int .i64))(hen:enters P fs)
  (dj: ∀(l b nn:Nat)(D0:DataW Unit)(w:World),l<w.heap.size->w.cell? ⟨l,0,none⟩=some (.map (some b))->w.ownsMap P kt (fun _=>some (.nil,[])) b nn D0->Maps.size D0<=maxLen->Maps.size D0*8<=140737488355328->
   Calls P fs #[.func (.func fk) #[] #[.pointer (some ⟨l,0,none⟩)]] w fun e w' => ∃(v:Value)(ss:List Int),e= .returned v/\ss.Perm (intKeys D0)/\w'.ownsRow w.heap.size kt 1 v ss.length ((ss.mergeSort (fun x y=>decide (x<=y))).map encZ)/\(v= .slice none 0 0↔ss=[])/\Below w.heap.size w w')
  {args:List AV} {H:qp} {r:AV} {H' :qp} (h:Va fk args H=some (r,H')):enters P fs/\lf P fs args H r H' :=by
 refine⟨hen, ?_⟩;unfold Va at h;split at h
 ·rename_i g es zN;split at h
  ·rename_i ks N6;split at h
   ·rename_i hc;obtain⟨rfl,rI⟩:=hc;cases h;intro w ι Im vs hi hl ha;obtain⟨v0,rfl⟩: ∃v0,vs=[v0]:=by match vs,hl with|[v0],_=>exact⟨v0,rfl⟩
    have h0:=ha 0 _ _ rfl rfl;cases h0 with
     |Q3 _ _ _ va vb VX Su hA hB=>(have:va=[]:=by cases va with|nil=>rfl|cons=>simp at VX);(subst this;obtain⟨p0,rfl⟩: ∃p0,vb=[p0]:=by match vb,Su with|[p0],_=>exact⟨p0,rfl⟩);have hp:=hB 0 _ _ rfl rfl;cases hp with
     |ptr _ _ c hbox=>have Jm:=hi.ru 0 (.box [.map 1]) rfl;obtain⟨cv,elem,fz,q1,q2,q3,q4,q5⟩:=Jm;obtain⟨m0,hm0⟩: ∃m0,cv[0]? =some m0:=⟨cv[0]'(by rw[<- q3];simp),z?⟩;have hmr:=q5 0 _ _ rfl hm0;cases hmr with
     |map _ _ _ _=>
      (obtain⟨xo,g1,g2,g3⟩:=hi.ru 1 (.map es zN) rfl;obtain⟨k1,k2⟩:=YL N6;simp only[SF,zU,decide_eq_true_eq,List.all_eq_true]at rI;obtain⟨⟨⟨⟨f1,f2⟩,f3⟩,f4⟩,f5⟩:=rI;have hbw: ∀β b,qp.get [(0,qJ.box [AV.map 1]),(1,qJ.map es zN)] β=some b->b.used=true->(ι β).b<w.heap.size:=fun β b hB hu=>(hi.ru β b hB).lt hu;have Wh: ∀(i:Nat) e,xo[i]? =some e-> ∃n,ks[i]? =some n/\e.key=encZ n/\e.born=(sf es)[i]?.getD 0/\i<es.length:=by intro i e he;have xS:i<es.length:=g2 ▸ (qL he).1;obtain⟨pk,pv,pb,df⟩: ∃a b c,es[i]? =some (a,b,c):=⟨es[i].1,es[i].2.1,es[i].2.2,by simp[xS]⟩;obtain⟨n,hn,rfl⟩:=k2 i _ _ _ df;obtain⟨r1,r2,r3⟩:=g3 i _ _ _ e df he;refine⟨n,hn, ?_,by rw[oH];simp[df,r3],xS⟩;have:=r1;generalize e.key=kk at this;cases this;rfl);(have hkeys:xo.map (·.key)=ks.map encZ:=by apply List.ext_getElem?;intro i;cases he:xo[i]? with|none=>(have h1:xo.length<=i:=by simpa using he);have h2:ks.length<=i:=o?;simp[he,h2]|some e=>obtain⟨n,hn,hk,_⟩:=Wh i e he;simp[he,hn,hk]);(have hborn:xo.map (·.born)=sf es:=by (apply List.ext_getElem?;intro i;have hsl:(sf es).length=es.length:=by rw[oH];simp);cases he:xo[i]? with|none=>(have h1:xo.length<=i:=by simpa using he);have h2:(sf es).length<=i:=o?;simp[he,h2]|some e=>obtain⟨n,_,_,hb,xS⟩:=Wh i e he;have:i<(sf es).length:=o?;simp[he,hb,this]);(have hrd: ∀(i:Nat) e,xo[i]? =some e-> ∃n,ks[i]? =some n/\WideElems.rd P kt (fun _=>some ((.nil:DataW Unit),[])) e=some (.int .i64 n,.nil):=by (intro i e he;obtain⟨n,hn,hk,_⟩:=Wh i e he;refine⟨n,hn, ?_⟩;obtain⟨b1,b2⟩:=f2 n (zc hn);have hw:(Lit.int .i64 n).wf=true:=by simp[Lit.wf,IntKind.min,IntKind.max,IntKind.signed,IntKind.bits];omega);simp[WideElems.rd,hk,encZ,keyOf,hkt,mapKey,hw]);let R:Value->Option (DataW Unit×List MemPlace):=fun _=>some (.nil,[]);(have hgl:(xo.map (WideElems.rg P kt R)).map (fun p=>intOf p.1)=ks:=by apply List.ext_getElem?;intro i;cases he:xo[i]? with|none=>(have h1:xo.length<=i:=by simpa using he);have h2:ks.length<=i:=o?;simp[he,h2]|some e=>obtain⟨n,hn,hk⟩:=hrd i e he;simp[he,hn,WideElems.rg,R,hk,intOf]);let D0:DataW Unit:= .map ((xo.map (WideElems.rg P kt R)).foldr DataW.insert []);(have N8:w.ownsMap P kt R (ι 1).b xo.length D0:=by refine⟨⟨xo⟩,zN,g1,⟨?_,⟨fun x hx=>?_, ?_, ?_⟩,fun x hx=>?_⟩,ju _,rfl⟩;show xo.length<=maxLen;simp only[maxLen];omega;apply f4;rw[<- hborn];exact List.mem_map_of_mem hx;show(xo.map (·.born)).Nodup;rw[hborn];exact f3;show(xo.map (·.key)).Nodup;rw[hkeys];exact List.pairwise_map.2 (f1.imp fun jZ he=>jZ (encZ_inj he));obtain⟨i,uj⟩:=jI hx;obtain⟨n,_,hr⟩:=hrd i x uj;exact⟨_,hr⟩);(have hperm:(intKeys D0).Perm ks:=by have:=(XN (xo.map (WideElems.rg P kt R))).map (fun p=>intOf p.1);rw[hgl]at this;exact this);(have ml:Maps.size D0=ks.length:=by have:=(XN (xo.map (WideElems.rg P kt R))).length_eq;show((xo.map (WideElems.rg P kt R)).foldr DataW.insert []).length=_;rw[this];simp;omega);(have Wg:w.cell? ⟨(ι 0).b,0,none⟩=some (.map (some (ι 1).b)):=by simp[World.cell?,q1,hm0]);refine(dj (ι 0).b (ι 1).b xo.length D0 w (hbw 0 _ rfl rfl) Wg N8 (by rw[ml];simp only[maxLen];omega) (by rw[ml];omega)).mono ?_;rintro e w' ⟨v,ss,rfl,hS,ep,JY,hb⟩;have Vs:=hS.trans hperm;rw[Mw ks ss Vs]at ep;obtain⟨w1,w2⟩:=ep;have hlen:(pJ ks).length=ss.length:=((Zg ks).trans Vs.symm).length_eq;rcases w2 with ⟨rfl,hz⟩|⟨g0,cap,cur,rfl,c1,c2,c3,c4,c5,c6⟩;have e2:pJ ks=[]:=List.length_eq_zero_iff.1 o?;rw[e2];obtain⟨hI,hE⟩:=zf.put (JZ:=NG rfl) hi (w' :=w') 2 (.row true 0 []) ⟨0,0,[]⟩ (fun x hx=>by cases hx) ⟨hb.size,hb.os,hb.output⟩ (fun b h _=>hb.block b h) (fun h=>by cases h) (fun _=>rfl);refine⟨_,_,_,rfl,hI,hE, ?_⟩;exact .row 2 0 0 0 _ (.row true 0 []) rfl rfl (fun _=>⟨_,_,_,rfl⟩) (fun _ _ _ e=>by cases e;exact ju _) (fun _ _ _ e _=>by cases e;exact⟨ju _,rfl⟩);(have jZ:ss≠[]:=fun e=>by have:=JY.2 e;cases this);(have e1:(pJ ks).isEmpty=false:=by cases hs:pJ ks with|nil=>rw[hs]at hlen;exact absurd (List.length_eq_zero_iff.1 hlen.symm) jZ|cons=>rfl);(have e2:xd 1 (pJ ks)=1:=by cases hs:pJ ks with|nil=>rw[hs]at hlen;exact absurd (List.length_eq_zero_iff.1 hlen.symm) jZ|cons=>rfl);rw[e1,e2];have He: ∀(i:Nat)(n:Int),(pJ ks)[i]? =some n->cur[i]? =some (encZ n):=by (intro i n hn;have h1:i<(pJ ks).length:=(qL hn).1;have h2:(cur.toList.take (ss.length*1))[i]? =some (encZ n):=by rw[c6];simp[hn]);rw[List.getElem?_take_of_lt o?]at h2;rw[<- Array.getElem?_toList];exact h2
      have Wi:((pJ ks).map fun k=>[PV.int .i64 k]).length=(pJ ks).length:=List.length_map _;obtain⟨hI,hE⟩:=zf.put (JZ:=NG rfl) hi (w' :=w') 2 (.row false 1 ((pJ ks).map fun k=>[PV.int .i64 k])) ⟨g0,cap,[]⟩ (fun x hx=>by cases hx) ⟨hb.size,hb.os,hb.output⟩ (fun b h _=>hb.block b h) (fun _=> .inl c1) (fun _=>by
       refine⟨cur,kt,(0,0),by simpa using c2,ky _,by simpa using c5,o?,by rw[Wi];simpa using(by omega:(pJ ks).length<=cap),fun e he=>?_,fun i e j p h1 h2=>?_,fun i e j p h1 h2=>?_⟩
       ·obtain⟨k,_,rfl⟩:=List.mem_map.1 he
        rfl
       ·simp only[List.getElem?_map,yZ]at h1
        obtain⟨n,hn,rfl⟩:=h1
        cases j with
        |zero=>simp at h2;subst h2;rfl
        |succ j=>simp at h2
       simp only[List.getElem?_map,yZ]at h1
       obtain⟨n,hn,rfl⟩:=h1
       cases j with
       |zero=>
        simp at h2
        subst h2
        exact⟨encZ n,by simpa using He i n hn,.int .i64 n⟩
       |succ j=>simp at h2)
      refine⟨_,_,_,rfl,hI,hE, ?_⟩;refine .row 2 _ 0 _ _ (.row false 1 ((pJ ks).map fun k=>[PV.int .i64 k])) rfl rfl (fun _=>⟨_,_,_,rfl⟩) (fun _ _ _ e=>by cases e;rw[Wi];exact ju _) (fun _ _ _ e _=>?_);cases e;refine⟨by rw[Wi];omega, ?_⟩;simp only[wH,if_false];exact⟨⟨g0,0,none⟩,by rw[hlen];simp,rfl,z?,fun _=>z?⟩
   cases h
  cases h
 cases h
end Go.Gm
namespace Go.Gm
open Go Go.RowKit Go.Sort
end Go.Gm
namespace Go.Gm
open Go
def Kt(t:TypeId)(args:List AV)(H:qp):Option (AV×qp):=
 match args with
 |[.ptr β 0]=>match H.get β with
  |_=>none
 |_=>none
theorem Rx[xn]{P:Program}{f:FuncId}{t:TypeId}(hen:enters P f)
  (SA: ∀(b:Nat)(w:World),w.cell? ⟨b,0,none⟩=some (.pointer (some ⟨b,0,none⟩))->Calls P f #[.pointer (some ⟨b,0,none⟩)] w fun e w' =>e= .returned (.tuple #[])/\w' =w)
  (om: ∀(b:Nat)(w:World),w.cell? ⟨b,0,none⟩=some (.pointer none)->w.shape? b=some (t,2)->w.frozen? ⟨b,0,none⟩=false->
   Calls P f #[.pointer (some ⟨b,0,none⟩)] w fun e w' =>e= .returned (.tuple #[])/\w' =w.setCell ⟨b,0,none⟩ (.pointer (some ⟨b,0,none⟩)))
  {args:List AV} {H:qp} {r:AV} {H' :qp} (h:Kt t args H=some (r,H')):enters P f/\lf P f args H r H' :=by refine⟨hen, ?_⟩;unfold Kt at h;split at h;rotate_left;cases h;rename_i β;split at h;cases h
end Go.Gm
