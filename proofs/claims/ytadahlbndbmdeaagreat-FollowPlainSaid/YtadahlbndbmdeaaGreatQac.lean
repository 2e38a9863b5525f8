/-
  The machine, part c.
-/
import Derived.Test.YtadahlbndbmdeaaGreatQab
import Derived.Below
import Derived.Deep.Draws
import Derived.Laws.AppendOwn
import Derived.Lib.ItoaNum
import Derived.Lib.LaidTab
import Derived.Lib.SlKeysI
import Derived.LoopN
import Derived.Maps.Own
import Derived.OpenShut
import Derived.Orders
import Derived.ProofKit
import Derived.Sort.Grow
open Go renaming TypeId->M,Oper->K,FuncId->I
open _root_ renaming List->Z,Nat->Y,Option->T,Bool->J
open Array renaming getElem?_toList->N?,getElem?_eq_some_iff->B!,replicate->s_,getD->E_
open Bool renaming or_eq_true->w!,not_eq_true'->b_,false_or->q1o,true->U,false->N
open Go.Gm.AV renaming refs->z!
open Go.Gm.Act renaming put_defers->X',KN->q27
open Go.Gm.qD renaming refs->q17
open Go.Gm.qt renaming zy->d!,get->L!,put->k_,upto->S',below->q1v
open Go.Gm.sk renaming off->q1w
open Go.Gm.uS renaming get->U!
open Go.Gm.yA renaming refl->Y!
open Go.Sem renaming run_pure->H?
open Int renaming le_trans->q05
open List renaming length_cons->b?,mem_append->t?,getElem?_append_left->c?,map_cons->e?,getElem?_cons_zero->i?,getElem?_cons_succ->Q?,getElem?_append_right->J?,mem_cons->K?,getElem?_map->Y?,mem_map->B?,pairwise_cons->C?,nodup_append->O?,range->L?,all_eq_true->K!,filter_cons->D!,getElem?_eq_none->Q_,append_nil->D_,mem_cons_of_mem->T',range_eq_range'->R',range'_succ->q18,flatMap_nil->q19,nodup_range->q1a,mapM_cons->q1c,drop_drop->q1j,range'->q22
open Nat renaming strongRecOn->s?,zero_add->x!,le_trans->c!,add_zero->a!,mul_comm->W!,lt_of_lt_of_le->G!,zero_le->A!,lt_trichotomy->n_,lt_succ_of_lt->M_,lt_succ_self->I_,exists_eq_add_of_le->K',testBit_or->q1n
open Ne renaming symm->a_
open Option renaming getD_some->i!,bind_eq_some_iff->J!,some->V,none->C
set_option linter.unusedSimpArgs false
set_option linter.unusedVariables false
set_option linter.unusedSectionVars false
namespace Go.Gm
open Go
section
variable [xY] {P:Program} {w:World} {H:qt} {ι:uT} {Im:Y->Prop}
theorem U8{ops:Array K}{a:Act}{E:uS}(q: ∀t,RA w H ι Im (E.get t) (a.tmps.getD t undef)){o:K}{b:J}(h:hJ ops.toList o E=V b):
  Region.wanted o (yielded ops a.tmps)=b:=by
 unfold hJ at h;unfold Region.wanted;split at h;rename_i m;rw[m];cases h;rfl;rename_i j want m;rw[m];simp only;split at h;(rename_i oj f;have c :ops[j]? =V oj:=by rw[<- N?];exact f);split at h;(rename_i d n;have k:yielded ops a.tmps j=match a.tmps[d]? with|some (.bool b)=>V b|_=>C:=by simp only[yielded,c,qM,n];rfl);(rw[k];have e:=q d;have l:a.tmps.getD d undef=(a.tmps[d]?).getD undef:=by simp[E_,getElem?_def];split<;>simp[*]);rw[l]at e;split at h;(rename_i r p;cases h;rw[p]at e;have g:=e.nZ;cases i:a.tmps[d]? with|none=>rw[i]at g;cases g|some v=>rw[i]at g;simp only[i!]at g;cases g;simp only;cases r<;>cases want<;>rfl);(rename_i p;cases h;rw[p]at e;cases i:a.tmps[d]? with|none=>rfl|some v=>rw[i]at e;simp only[i!]at e;cases e with|xL _ vs=>rfl);cases h;(rename_i n;cases h;have:yielded ops a.tmps j=C:=by simp[yielded,c,n]);rw[this];rfl;rename_i f;cases h;have c :ops[j]? =C:=by rw[<- N?];exact f
 have:yielded ops a.tmps j=C:=by simp[yielded,c]
 rw[this];rfl
theorem skip_inv{a:Act}{s:St}{nt:Y}(h:Inv w a s ι Im nt)(d:T Tmp)(b: ∀t,d=V t->t<nt):
  Inv w (a.put d undef) { s with env:=iC d (.xL []) s.env } ι Im nt where
 heap:=h.heap
 env:=Y5 h.env h.size b RI
 nx:=h.nx
 size:=by rw[q27];exact h.size
 defers:=by rw[X'];exact h.defers
theorem Ng{G:GP}{O:jb}(q:uZ P G)(p:SoundCall P O){nt:Y}(ops:Array K)(n:Gw nt ops.toList)(Q:Exit->Act->World->Prop):
  ∀(rest:Z K)(k:Y),ops.toList.drop k=rest-> ∀{w:World}{ι:uT}{Im:Y->Prop}{a:Act}{s g :St},Inv w a s ι Im nt->We G O ops.toList rest s=V g ->
   (∀ u j,oM w s.heap ι Im nt g u j ->Q .normal u j)->wpOps P ops Q (q22 k rest.length) a w
 |[],k,_,w,ι,Im,a,s,g,h,c,i=>by cases c;exact i a w ⟨ι,Im,h,Y! _ _ _ _⟩
 |o::rest,k,v,w,ι,Im,a,s,g,h,c,i=>by (have x:ops.toList[k]? =V o:=by have:=congrArg (λl=>l[0]?) v;simpa using this);(have D:ops[k]? =V o:=by rw[<- N?];exact x);(have b :ops.toList.drop (k+1)=rest:=by have:=congrArg (λl=>l.drop 1) v;simpa[q1j]using this);have f: ∀t,o.dst=V t->t<nt:=n o (zj x);simp only[b?,q18,wpOps,D];simp only[We]at c;split at c;{rename_i m;rw[U8 h.env m,if_pos rfl];obtain⟨Z0,B,e1⟩:=cy (Rp G o.op s.env) h;split at c;rotate_left;cases c;rename_i s1 y;refine .inl (stepO_ok q p B o f y _ _ λu j z=>?_);obtain⟨ι2,P0,A,e2⟩:=z;exact Ng q p ops n Q rest (k+1) b A c λe d r=>i e d (r.from (e1.trans e2))};rename_i m;rw[U8 h.env m,if_neg z?];exact Ng q p ops n Q rest (k+1) b (skip_inv h o.dst f) c λe d r=>i e d r;cases c
theorem q08{G:GP}{O:jb}(j:uZ P G)(i:SoundCall P O){nt:Y}(id:Y)(ops:Array K)(g:Gw nt ops.toList)
  {a:Act} {s c :St} (h:Inv w a s ι Im nt) (e:We G O ops.toList ops.toList s=V c) (Q:Exit->Act->World->Prop)
  (f: ∀d b,oM w s.heap ι Im nt c d b ->Q .normal d b):(Code.region id ops N).wp P Q a w:=by refine wp_region ?_;have:=Ng j i ops g Q ops.toList 0 z? h e f;rw[R'];simpa using this
end
def ju(L:Z Y)(H a :qt):Prop:= ∀γ∈L,a.get γ=H.get γ
section
variable {H H' :qt}
theorem ju.app{A B:Z Y}(h:ju (A++B) H H'):ju A H H' /\ju B H H' :=
 ⟨λγ a=>h γ (by simp[a]),λγ a=>h γ (by simp[a])⟩
theorem PU{ti:TI}{a:AV}(h:ju a.refs H H'):Jg ti a H' =Jg ti a H:=by cases a<;>simp only[Jg];rename_i p;cases p<;>rfl;rename_i β o;rw[h β (by simp[z!])];rename_i β v i o;rw[h β (by simp[z!])]
theorem Nd{ti:TI}{a v:AV}(h:ju a.refs H H'):Z7 ti a v H' =Z7 ti a v H:=by cases a<;>simp only[Z7];rename_i β o;rw[h β (by simp[z!])];rename_i β v i o;rw[h β (by simp[z!])]
theorem lP{v:AV}(h:ju v.refs H H'):gj v H' =gj v H:=by cases v with|pv p=>(cases p<;>first|rfl|(rename_i b _ _;cases b<;>rfl))|row β xS off n=>simp only[gj];rw[h β (by simp[z!])]|_=>rfl
theorem MI{v:AV}(h:ju v.refs H H'):Xz v H' =Xz v H:=by cases v with|row β xS off n=>simp only[Xz];rw[h β (by simp[z!])]|_=>rfl
theorem Yp{a:TI}{s x:AV}{nx:Y}(h1:ju s.refs H H')(h2:ju x.refs H H'):rB a s x H' nx=rB a s x H nx:=rfl
theorem Hx{a:TI}{s x:AV}{nx:Y}(d:ju s.refs H H')(c:ju x.refs H H'):ng a s x H' nx=ng a s x H nx:=by unfold ng;rw[lP c,Yp d c];cases s with|row β xS off n=>simp only;rw[d β (by simp[z!])]|pv p=>(cases p<;>first|rfl|(rename_i b _ _;cases b<;>rfl))|_=>rfl
theorem PO{a:TI}{s x:AV}{nx:Y}(d:ju s.refs H H')(c:ju x.refs H H'):Kh a s x H' nx=Kh a s x H nx:=by unfold Kh;rw[lP c];cases s with|row β xS off n=>simp only;rw[d β (by simp[z!])]|pv p=>(cases p<;>first|rfl|(rename_i b _ _;cases b<;>rfl))|_=>rfl
theorem W7{td:TD}{a:M->T TI}{x i:AV}(h:ju x.refs H H'):cr td a x i H' =cr td a x i H:=by unfold cr;cases x with|row β xS off n=>simp only;rw[h β (by simp[z!])]|pv p=>(cases p<;>first|rfl|(rename_i b _ _;cases b<;>rfl))|_=>rfl
theorem Nc{td:TD}{c:M->T TI}{ρ:Operand->AV}{x:AV}{lo hi a:T Operand}(h:ju x.refs H H'):lC td c ρ x lo hi a H' =lC td c ρ x lo hi a H:=by unfold lC;cases x with|row β xS off n=>simp only;rw[h β (by simp[z!])]|pv p=>(cases p<;>first|rfl|(rename_i b _ _;cases b<;>rfl))|_=>rfl
theorem YA{td:TD}{v:AV}(h:ju v.refs H H'):ea td v H' =ea td v H:=by unfold ea;cases v with|row β xS off n=>simp only;rw[h β (by simp[z!])]|pv p=>(cases p<;>first|rfl|(rename_i b _ _;cases b<;>rfl))|_=>rfl
theorem IC{a:M->T TI}{ti:TI}{x y:AV}(c:ju x.refs H H')(b:ju y.refs H H'):aEq a ti x y H' =aEq a ti x y H:=by unfold aEq;split;rfl;rfl;rw[YA c,YA b]
theorem Ci{a:M->T TI}{op:BinOp}{ti:TI}{x y:AV}(c:ju x.refs H H')(b:ju y.refs H H'):Cg a op ti x y H' =Cg a op ti x y H:=by have e:aEq a ti x y H' =aEq a ti x y H:=IC c b;unfold Cg;split;rfl;rfl;split;rfl;rfl;rw[e]
theorem Yw{src dst:TD}{a:M->T TI}{x:AV}{nx:Y}(h:ju x.refs H H'):db src dst a x H' nx=db src dst a x H nx:=by have e:gj x H' =gj x H:=lP h;unfold db;split<;>first|rfl|(rw [e])
theorem Vx{G:GP}{t:M}{x:AV}{nx:Y}(h:ju x.refs H H'):cG G t x H' nx=cG G t x H nx:=rfl
theorem Yz{a b:TI}{m k:AV}{ok:J}(h:ju m.refs H H'):X2 a b m k ok H' =X2 a b m k ok H:=rfl
theorem YB{a:TI}{m k v:AV}(h:ju m.refs H H'):ic a m k v H' =ic a m k v H:=rfl
theorem PR{m:AV}{k:PV}(h:ju m.refs H H'):Yy m k H' =Yy m k H:=by cases m with|map β=>simp only[Yy];rw[h β (by simp[z!])]|pv p=>(cases p<;>first|rfl|(rename_i b _ _;cases b<;>rfl))|_=>rfl
theorem HF{a b:TI}{m k:AV}{ok:J}(h:ju m.refs H H'):oN a b m k ok H' =oN a b m k ok H:=by cases k with|pv p=>simp only[oN,PR h]|_=>rfl
theorem Jh{a:TI}{m k:AV}{v:PV}(h:ju m.refs H H'):dc a m k v H' =dc a m k v H:=by cases m<;>first|rfl|(cases k<;>first|rfl|(simp only[dc];rw[h _ (by simp[z!])]))
theorem Nb{a b:TI}{m k:AV}(h:ju m.refs H H'):X1 a b m k H' =X1 a b m k H:=rfl
theorem Ki{m st:AV}{v:PV}(h:ju m.refs H H'):pa m st v H' =pa m st v H:=rfl
theorem HA{a:TI}{m k:AV}(h:ju m.refs H H'):fV a m k H' =fV a m k H:=by cases m<;>first|rfl|(cases k<;>first|rfl|(simp only[fV];rw[h _ (by simp[z!])]))|(rename_i p;cases p<;>first|rfl|(cases k<;>rfl))
theorem Cm{x:AV}(h:ju x.refs H H'):PT x H' =PT x H:=by cases x with|row β xS off n=>simp only[PT];rw[h β (by simp[z!])]|map β=>simp only[PT];rw[h β (by simp[z!])]|pv p=>(cases p<;>first|rfl|(rename_i b _ _;cases b<;>rfl))|_=>rfl
theorem Yr{e:M}{a:TI}{s x:AV}{nx:Y}(h1:ju s.refs H H')(h2:ju x.refs H H'):mI e a s x H' nx=mI e a s x H nx:=rfl
theorem Yq{a:TI}{s x:AV}{nx:Y}(c:ju s.refs H H')(b:ju x.refs H H'):tz a s x H' nx=tz a s x H nx:=by unfold tz;rw[MI b];cases s with|row β xS off n=>simp only;rw[c β (by simp[z!])]|_=>rfl
theorem W8{x:AV}{nx:Y}(h:ju x.refs H H'):ct x H' nx=ct x H nx:=rfl
theorem J6{el:M}{p x:AV}{nx:Y}(h:ju p.refs H H'):nS el p x H' nx=nS el p x H nx:=rfl
theorem Yu{G:GP}{b:Builtin}{e:Z M}{args:Z AV}{nx:Y}(h:ju (AV.refs.sB args) H H'):da G b e args H' nx=da G b e args H nx:=by unfold da;split;have a:=(ju.app h).1;simp only[Cm a];have a:=(ju.app h).1;simp only[W8 a];have a:=(ju.app h).1;simp only[J6 a];rfl;rfl;rename_i s x;have a:ju s.refs H H' :=λγ c=>h γ (by simp[AV.refs.sB,c]);have d:ju x.refs H H' :=λγ c=>h γ (by simp[AV.refs.sB,c]);simp only[Hx a d,Yr a d,Yq a d];rename_i s x;have a:ju s.refs H H' :=λγ c=>h γ (by simp[AV.refs.sB,c]);have d:ju x.refs H H' :=λγ c=>h γ (by simp[AV.refs.sB,c]);simp only[PO a d];rename_i m k;have a:ju m.refs H H' :=λγ c=>h γ (by simp[AV.refs.sB,c]);simp only[HA a];rfl
theorem Xs: ∀(n:Y)(r d:Z Y),ju (tD H n r d) H H' ->tD H' n r d=tD H n r d
 |0,_,_,_=>rfl
 |n+1,[],d,_=>rfl
 |n+1,β::r,d,h=>by simp only[tD]at h |-;by_cases c:Uu d β=U;rw[if_pos c]at h |-;rw[if_pos c];exact Xs n r d h;(rw[if_neg c]at h |-;rw[if_neg c];have f:β∈tD H n (r++(dQ H β).refs) (d++[β]):=by (have key: ∀(n:Y)(r d:Z Y)(x:Y),x∈d->x∈tD H n r d:=by intro n;induction n with|zero=>intro r d x a;exact a|succ n b=>intro r d x a;cases r with|nil=>exact a|cons β r=>simp only[tD];split;exact b _ _ _ a;exact b _ _ _ (by simp[a]));exact key _ _ _ _ z?);(have e:dQ H' β=dQ H β:=by simp only[dQ,h β f]);rw[e];exact Xs n _ _ h
theorem X8{L:Z Y}: ∀(l:Z Y),ju l H H' ->sM H' L l=sM H L l
 |[],_=>rfl
 |β::r,h=>by simp only[sM];rw[h β z?,X8 r λγ a=>h γ (by simp[a])]
theorem UI{g:Y->Y}: ∀(i:Y)(l:Z Y),ju l H H' ->pick H' g i l=pick H g i l
 |_,[],_=>rfl
 |i,β::r,h=>by (simp only[pick];rw[UI (i+1) r λγ a=>h γ (by simp[a])];have:dQ H' β=dQ H β:=by simp only[dQ,h β z?]);rw[this]
theorem Gh{roots:Z Y}(h:ju (tD H 400 roots []) H H'):dN H' [] roots=dN H [] roots:=by cases roots with|nil=>rfl|cons β r=>(have a :ju (tD H 400 ((β::r)++([]:Z Y).flatMap λβ=>(dQ H β).refs) []) H H' :=by simpa using h);have e:=Xs 400 _ _ a;simp only[q19]at e a;simp only[dN,q19,e,X8 _ a,UI 0 _ a]
theorem WY{O:jb}{f:I}{args:Z AV}{nx:Y}(h:ju (tD H 400 (AV.refs.sB args) []) H H'):Q0 O f args H' nx=Q0 O f args H nx:=by unfold Q0;rw[Gh h]
theorem RC{ps:Z (Y×Operand)}{E E' :uS}(h: ∀x∈ps.map (·.2),ev E' x=ev E x): ∀x∈ps,ev E' x.2=ev E x.2:=λx a=>h x.2 (B?.2 ⟨x,a,rfl⟩)
theorem Tv{zw:Y->T (Y×Y)}{E a :uS}: ∀(l:Z (Y×Operand))(c:Z AV),(∀ x∈l,ev a x.2=ev E x.2)->Xe zw (ev a) l c=Xe zw (ev E) l c
 |[],_,_=>rfl
 |(i,x)::r,c,h=>by have d:ev a x=ev E x:=h (i,x) z?;simp only[Xe,d];split;split;exact Tv r _ λy b=>h y (by simp[b]);rfl;rfl
theorem YX{size:Y}{E a :uS}: ∀(l:Z (Y×Operand))(c:Z (Z PV)),(∀ x∈l,ev a x.2=ev E x.2)->df size (ev a) l c=df size (ev E) l c
 |[],_,_=>rfl
 |(i,x)::r,c,h=>by have d:ev a x=ev E x:=h (i,x) z?;simp only[df,d];split;split;exact YX r _ λy b=>h y (by simp[b]);rfl;rfl
theorem V3{size:Y}{E a :uS}: ∀(l:Z (Y×Operand))(c:Z (Z AV)),(∀ x∈l,ev a x.2=ev E x.2)->sO size (ev a) l c=sO size (ev E) l c
 |[],_,_=>rfl
 |(i,x)::r,c,h=>by have d:ev a x=ev E x:=h (i,x) z?;simp only[sO,d];split;exact V3 r _ λy b=>h y (by simp[b]);rfl
theorem Ds{E E' :uS}(l:Z Operand)(h: ∀x∈l,ev E' x=ev E x):l.map (ev E')=l.map (ev E):=Z.map_congr_left h
theorem IH{G:GP}{O:jb}{o:Op}{E E' :uS}{nx:Y}(e: ∀x∈o.operands,ev E' x=ev E x)(j:ju (cn o E H) H H'):ry G O o E' H' nx=ry G O o E H nx:=by cases o with|move x=>simp only[ry,e x (by simp[Op.operands])]|assign x=>simp only[ry,e x (by simp[Op.operands])]|pick c a b=>simp only[ry,e c (by simp[Op.operands]),e a (by simp[Op.operands]),e b (by simp[Op.operands])]|alloc t=>rfl|box t x=>simp only[ry,e x (by simp[Op.operands])]|build t ps=>have h:=RC (ps:=ps.toList) (E:=E) (E' :=E') (λx p=>e x (by simpa[Op.operands]using p));simp only[ry,Ys,Tv _ _ h]|buildSlice t n ps=>have h:=RC (ps:=ps.toList) (E:=E) (E' :=E') (λx p=>e x (by simpa[Op.operands]using p));simp only[ry,YX _ _ h,V3 _ _ h]|load t a=>simp only[ry,e a (by simp[Op.operands]),PU j]|store t a x=>simp only[ry,e a (by simp[Op.operands]),e x (by simp[Op.operands]),Nd j]|nilCheck x=>simp only[ry,e x (by simp[Op.operands])]|binOp op t x y z=>obtain⟨u,q⟩:=ju.app j;simp only[ry,e x (by simp[Op.operands]),e y (by simp[Op.operands]),Ci u q]|unOp op t x=>simp only[ry,e x (by simp[Op.operands])]|convert s d x=>simp only[ry,e x (by simp[Op.operands]),Yw j,Vx j]|makeFunc fn a b=>(cases fn with|func f=>(have u:=Ds a.toList (E:=E) (E' :=E') (λx p=>e x (by simp[Op.operands]at p |-; exact .inl p));have q:=Ds b.toList (E:=E) (E' :=E') (λx p=>e x (by simp[Op.operands]at p |-; exact .inr p));simp only[ry];generalize a.toList=D at u;generalize b.toList=B at q;cases D<;>cases B<;>first|rfl|(simp only[u,q]))|_=>rfl)|makeMap t r=>cases r<;>rfl|makeSlice t l c=>simp only[ry,e l (by simp[Op.operands]),e c (by simp[Op.operands])]|slice t x lo hi mx=>(have p:=e x (by simp[Op.operands]);have u: ∀d,wD (ev E') d lo=wD (ev E) d lo:=λd=>by cases lo with|none=>rfl|some y=>simp only[wD,e y (by simp[Op.operands])]);(have q: ∀d,wD (ev E') d hi=wD (ev E) d hi:=λd=>by cases hi with|none=>rfl|some y=>simp only[wD,e y (by simp[Op.operands])]);(have L: ∀d,wD (ev E') d mx=wD (ev E) d mx:=λd=>by cases mx with|none=>rfl|some y=>simp only[wD,e y (by simp[Op.operands])]);(have key: ∀td w H,lC td w (ev E') (ev E x) lo hi mx H=lC td w (ev E) (ev E x) lo hi mx H:=by intro td w H;unfold lC;simp only[u,q,L]);simp only[ry,p,key,Nc j]|fieldAddr t x f=>simp only[ry,e x (by simp[Op.operands])]|field t x f=>simp only[ry,e x (by simp[Op.operands])]|indexAddr t x i=>simp only[ry,e x (by simp[Op.operands]),e i (by simp[Op.operands]),W7 j]|index t x i=>simp only[ry,e x (by simp[Op.operands]),e i (by simp[Op.operands])]|lookup t m k ok=>simp only[ry,e m (by simp[Op.operands]),e k (by simp[Op.operands]),HF j,Yz j]|mapUpdate t m k x=>simp only[ry,X3,e m (by simp[Op.operands]),e k (by simp[Op.operands]),e x (by simp[Op.operands]),Jh j,YB j]|insert t m k x=>simp only[ry,e m (by simp[Op.operands]),e k (by simp[Op.operands]),e x (by simp[Op.operands]),Jh j]|mapEntry t m k=>simp only[ry,e m (by simp[Op.operands]),e k (by simp[Op.operands]),Nb j]|entryStore t m st x=>simp only[ry,e m (by simp[Op.operands]),e st (by simp[Op.operands]),e x (by simp[Op.operands]),Ki j]|extract t i=>simp only[ry,e t (by simp[Op.operands])]|call c=>(obtain⟨callee,args,ai⟩:=c;have A:=Ds args.toList (E:=E) (E' :=E') (λx p=>e x (by simp[Op.operands,Call.operands];right;simpa using p));cases callee with|builtin b=>simp only[ry,A,Yu j]|value f=>have F:=e f (by simp[Op.operands,Call.operands]);simp only[ry,F,A];simp only[cn]at j;split;rename_i g v;rw[v]at j;exact WY j;rename_i g a b v;rw[v]at j;exact WY j;rfl|_=>rfl)|_=>rfl
end
structure Rc where
 E:uS
 H:qt
 nx:Y
 on:J
 v:AV
 ws:Z (Y×qD)
 iy:Y
 rd:Z Y
def Rc.keys(c:Rc):Z Y:=c.ws.map (·.1)
mutual
theorem PV.XX: ∀{x y:PV},PV.wV x y=U->x=y:=by
 intro x y h;cases x<;>cases y<;>first|(simp [PV.wV]at h;done)|(simp only[PV.wV,xn,beq_iff_eq,decide_eq_true_eq]at h)
 all_goals first|rfl|(rw [h];done)|(rw [h.1,h.2];done)|(rw [PV.aU h];done)|(rw [h.1.1,h.1.2,PV.fT h.2];done)
theorem PV.aU: ∀{x y:Z PV},PV.ou x y=U->x=y:=by
 intro x y h;cases x<;>cases y<;>first|(simp [PV.ou]at h;done)|rfl|skip
 simp only[PV.ou,xn]at h;rw[PV.XX h.1,PV.aU h.2]
theorem PV.fT: ∀{x y:Z (Z PV)},PV.fS x y=U->x=y:=by
 intro x y h;cases x<;>cases y<;>first|(simp [PV.fS]at h;done)|rfl|skip
 simp only[PV.fS,xn]at h;rw[PV.aU h.1,PV.fT h.2]
end
theorem AV.XX{x y:AV}(h:AV.wV x y=U):x=y:=by
 cases x<;>cases y<;>first|(simp [AV.wV]at h;done)|rfl|(simp only[AV.wV,xn,decide_eq_true_eq]at h)
 all_goals first|(rw [PV.XX h];done)|(obtain ⟨⟨⟨b,a⟩,d⟩,c⟩:=h;subst b a d c;rfl)|(obtain ⟨b,a⟩:=h;subst b a;rfl)|(subst h;rfl)
theorem AV.aU: ∀{x y:Z AV},AV.ou x y=U->x=y
 |[],[],_=>rfl
 |[],_::_,h=>by simp[AV.ou]at h
 |_::_,[],h=>by simp[AV.ou]at h
 |_::_,_::_,h=>by simp only[AV.ou,xn]at h;rw[AV.XX h.1,AV.aU h.2]
theorem AV.fT: ∀{x y:Z (Z AV)},AV.fS x y=U->x=y
 |[],[],_=>rfl
 |[],_::_,h=>by simp[AV.fS]at h
 |_::_,[],h=>by simp[AV.fS]at h
 |_::_,_::_,h=>by simp only[AV.fS,xn]at h;rw[AV.aU h.1,AV.fT h.2]
theorem qD.XX{x y:qD}(h:qD.wV x y=U):x=y:=by
 cases x<;>cases y<;>first|(simp [qD.wV]at h;done)|rfl|(simp only[qD.wV,xn,decide_eq_true_eq,beq_iff_eq]at h)
 all_goals first|(rw [AV.aU h];done)|(rw [h.1,AV.aU h.2];done)|(rw [h.1,AV.fT h.2];done)|(rw [h.1.1,h.1.2,PV.fT h.2];done)|(rw [h.1.1.1,h.1.1.2,h.1.2,PV.fT h.2];done)
theorem B5{H:qt}{β:Y}{b:qD}(h:Dk H β b=U):H.get β=V b:=by unfold Dk at h;split at h;rename_i c a;rw[a,qD.XX h];cases h
theorem Hd(rd:Z Y): ∀(ws:Z (Y×qD))(H:qt)(x:Y×qD),x∈trim rd H ws->x∈ws
 |[],H,x,h=>by simp[trim]at h
 |(β,b)::r,H,x,h=>by rw[trim]at h;split at h;exact T' _ (Hd rd r H x h);rcases K?.1 h with rfl|h;exact Z.mem_cons_self;exact T' _ (Hd rd r _ x h)
theorem Hb(rd:Z Y): ∀(ws:Z (Y×qD))(H:qt)(γ:Y),γ∈ws.map (·.1)->γ∈(trim rd H ws).map (·.1)\/ ∃b,H.get γ=V b
 |[],H,γ,h=>by simp at h
 |(β,b)::r,H,γ,h=>by rw[trim];simp only[e?,K?]at h;split;rename_i a;simp only[xn]at a;rcases h with rfl|h;exact .inr ⟨_,B5 a.2⟩;exact Hb rd r H γ h;rcases h with rfl|h;exact .inl z?;rcases Hb rd r (H.put β b) γ h with h|⟨c,h⟩;exact .inl (by simp[h]);rw[d!]at h;split at h;rename_i e;exact .inl (by simp[e]);exact .inr ⟨c,h⟩
theorem l7: ∀(ws:Z (Y×qD))(H d :qt)(γ:Y),γ∈ws.map (·.1)->(zm ws H).get γ=(zm ws d).get γ
 |[],_,_,_,h=>by simp at h
 |(i,b)::r,H,d,γ,h=>by simp only[zm];by_cases a:γ∈r.map (·.1);exact l7 r _ _ γ a;(have hi:γ=i:=by simp only[e?,K?]at h;exact h.resolve_right a);have c: ∀x∈r,x.1≠γ:=λx f e=>a (by rw[<- e];exact B?.2 ⟨x,f,rfl⟩);rw[kX r _ γ c,kX r _ γ c,d!,d!,if_pos hi,if_pos hi]
theorem Hc(rd:Z Y): ∀(ws:Z (Y×qD))(H a :qt),ju rd H a -> ∀γ,(zm (trim rd H ws) a).get γ=(zm ws a).get γ
 |[],_,_,_,_=>rfl
 |(β,b)::r,H,a,h,γ=>by rw[trim];split;(rename_i d;simp only[xn]at d;have j:=B5 d.2;have i:a.get β=V b:=by rw[h β ((Xn rd β).1 d.1),j]);rw[Hc rd r H a h γ];simp only[zm];by_cases g:γ∈r.map (·.1);exact l7 r _ _ γ g;have f: ∀x∈r,x.1≠γ:=λx c e=>g (by rw[<- e];exact B?.2 ⟨x,c,rfl⟩);rw[kX r _ γ f,kX r _ γ f,d!];split;rename_i e;rw[e,i];rfl;simp only[zm];refine Hc rd r (H.put β b) (a.put β b) (λx c=>?_) γ;rw[d!,d!,h x c]
theorem FZ{b:J}{rd:Z Y}{ws:Z (Y×qD)}{H a :qt}(h:ju rd H a)(γ:Y):(zm (lQ b rd H ws) a).get γ=(zm ws a).get γ:=by cases b;rfl;exact Hc rd ws H a h γ
theorem A0{a:J}{rd:Z Y}{ws:Z (Y×qD)}{H:qt}{x:Y×qD}(h:x∈lQ a rd H ws):x∈ws:=by cases a;exact h;exact Hd rd ws H x h
theorem FY{tm:J}{rd:Z Y}{ws:Z (Y×qD)}{H:qt}{γ:Y}(h:γ∈ws.map (·.1)):γ∈(lQ tm rd H ws).map (·.1)\/ ∃b,H.get γ=V b:=by cases tm;exact .inl h;exact Hb rd ws H γ h
def tw(G:GP)(O:jb)(all:Z K)(b:J):Z K->Z Rc->St->St->Prop
 |[],[],s,a =>a =s
 |o::r,c::cs,s,a =>c.E=s.env/\c.H=s.heap/\c.nx=s.nx/\hJ all o s.env=V c.on/\
   (c.on=U->(∃ wf,ry G O o.op s.env s.heap s.nx=V (c.v,wf,c.iy)/\c.ws=lQ b c.rd s.heap wf)/\c.rd=cn o.op s.env s.heap)/\
   (c.on=N->c.v= .xL []/\c.ws=[]/\c.iy=s.nx/\c.rd=[])/\tw G O all b r cs ⟨iC o.dst c.v s.env,zm c.ws s.heap,c.iy⟩ a
 |_,_,_,_=>False
def B8:Y->Z Rc->Z (Y×Z Y×Z Y)->Z (Y×Z Y×Z Y)
 |_,[],a=>a
 |i,c::cs,a=>B8 (i+1) cs (if c.on=U then(i,c.rd,c.keys)::a else a)
theorem X5{G:GP}{O:jb}(all:Z K){c:J}: ∀{l:Z K}{i:Y}{s b :St}{a:Z (Y×Z Y×Z Y)},ig G O all c i l s a=V b ->
  ∃cs,tw G O all c l cs s b /\rC (ym [] all) (B8 i cs a)=U
 |[],i,s,b,a,h=>by simp only[ig]at h;split at h<;>cases h;rename_i g;exact⟨[],rfl,g⟩
 |o::r,i,s,b,a,h=>by simp only[ig]at h;split at h;rename_i d;split at h;rename_i v ws nx j;obtain⟨cs,f,e⟩:=X5 all h;exact⟨⟨s.env,s.heap,s.nx,U,v,lQ c (cn o.op s.env s.heap) s.heap ws,nx,cn o.op s.env s.heap⟩::cs,⟨rfl,rfl,rfl,d,λ_=>⟨⟨ws,j,rfl⟩,rfl⟩,(λh=>by cases h),f⟩,e⟩;cases h;rename_i d;obtain⟨cs,f,e⟩:=X5 all h;exact⟨⟨s.env,s.heap,s.nx,N,.xL [],[],s.nx,[]⟩::cs,⟨rfl,rfl,rfl,d,(λh=>by cases h),λ_=>⟨rfl,rfl,rfl,rfl⟩,f⟩,e⟩;cases h
theorem tw.len{G:GP}{O:jb}{all:Z K}{a:J}: ∀{l:Z K}{cs:Z Rc}{s b :St},tw G O all a l cs s b ->cs.length=l.length
 |[],[],_,_,_=>rfl
 |[],_::_,_,_,h=>h.elim
 |_::_,[],_,_,h=>h.elim
 |_::r,_::cs,_,_,h=>by simp[tw.len h.2.2.2.2.2.2]
theorem Km: ∀{l L:Z Y},VD l L=U-> ∀x∈l,x∉L
 |[],L,_,x,hx=>by simp at hx
 |y::r,L,h,x,hx=>by simp only[VD,xn,b_]at h;rcases K?.1 hx with rfl|hx;intro a;rw[(Xn L x).2 a]at h;simp at h;exact Km h.2 x hx
def Apart(a b:Rc):Prop:=(∀ x∈a.keys,x∉b.rd)/\(∀ x∈a.keys,x∉b.keys)/\ ∀x∈a.rd,x∉b.keys
theorem Jj{b:Z Y}{j:Y}{rd wr:Z Y}: ∀{l:Z (Y×Z Y×Z Y)},XJ b j rd wr l=U-> ∀e∈l,ordered b e.1 j=U\/(VD e.2.2 rd=U/\VD e.2.2 wr=U/\VD e.2.1 wr=U)
 |[],_,e,he=>by simp at he
 |(i,rdi,wri)::r,h,e,he=>by simp only[XJ,xn,w!]at h;rcases K?.1 he with rfl|he;rcases h.1 with a|⟨⟨a,d⟩,c⟩;exact .inl a;exact .inr ⟨a,d,c⟩;exact Jj h.2 e he
theorem B9{m:Z Y}: ∀(cs:Z Rc)(i:Y)(d:Z (Y×Z Y×Z Y)),rC m (B8 i cs d)=U->
  rC m d=U/\ ∀(b:Y)(j:Rc),cs[b]? =V j->j.on=U->
   (∀ e∈d,ordered m e.1 (i+b)=U\/(VD e.2.2 j.rd=U/\VD e.2.2 j.keys=U/\VD e.2.1 j.keys=U))/\
   ∀(a:Y)(l:Rc),a<b->cs[a]? =V l->l.on=U->ordered m (i+a) (i+b)=U\/Apart l j
 |[],i,d,h=>⟨h,z?⟩
 |c::cs,i,d,h=>by (simp only[B8]at h;obtain⟨k,x⟩:=B9 cs (i+1) _ h;have n:rC m d=U:=by split at k;simp only[rC,xn]at k;exact k.2;exact k);refine⟨n,λb j o s=>?_⟩;cases b with|zero=>simp only[i?,wO]at o;subst o;rw[if_pos s]at k;simp only[rC,xn]at k;exact⟨λe q=>Jj k.1 e q,λa l w=>o?⟩|succ b=>simp only[Q?]at o;obtain⟨p,r⟩:=x b j o s;rw[show i+1+b=i+(b+1)from o?]at p r;refine⟨λe q=>p e (by split<;>simp[q]),λa l w f g=>?_⟩;cases a with|zero=>simp only[i?,wO]at f;subst f;rcases p (i,c.rd,c.keys) (by rw[if_pos g];simp)with h|⟨v,u,t⟩;exact .inl h;exact .inr ⟨Km v,Km u,Km t⟩|succ a=>simp only[Q?]at f;have:=r a l o? f g;rwa[show i+1+a=i+(a+1)from o?]at this
theorem Dt{ms:Z Y}{o:K}{i:Y}(h:(NU ms o).testBit i=U): ∃e∈o.after,Region.binds .any e=U/\(i=e.on\/(ms.getD e.on 0).testBit i=U):=by
 have key: ∀(l:Z Edge)(m:Y),(l.foldl (λm e=>if Region.binds .any e=U then m ||| (1 <<< e.on) ||| ms.getD e.on 0 else m) m).testBit i=U->
   m.testBit i=U\/ ∃e∈l,Region.binds .any e=U/\(i=e.on\/(ms.getD e.on 0).testBit i=U):=by
  intro l;induction l with
  |nil=>intro m h;exact .inl h
  |cons e l d=>
   intro m h;simp only[Z.foldl_cons]at h;rcases d _ h with h|⟨g,b,a,f⟩
   ·split at h
    ·rename_i c;rw[q1n,q1n,Y.one_shiftLeft,Y.testBit_two_pow]at h;simp only[w!,decide_eq_true_eq]at h;rcases h with (h|h)|h
     ·exact .inl h
     ·exact .inr ⟨e,z?,c,.inl h.symm⟩
     exact .inr ⟨e,z?,c,.inr h⟩
    exact .inl h
   exact .inr ⟨g,by simp[b],a,f⟩
 rcases key o.after.toList 0 h with h|⟨e,b,a⟩;simp at h;exact⟨e,by simpa using b,a⟩
theorem lK: ∀(os:Z K)(a:Z Y)(k:Y),k<a.length->(ym a os).getD k 0=a.getD k 0
 |[],a,k,_=>rfl
 |o::r,a,k,h=>by simp only[ym];rw[lK r _ k v?];simp[c? h]
theorem KF: ∀(os:Z K)(a:Z Y)(j:Y)(o:K),os[j]? =V o-> ∃b :Z Y,b.length=a.length+j/\(ym a os).getD (a.length+j) 0=NU b o/\
  ∀k,k<a.length+j->b.getD k 0=(ym a os).getD k 0
 |[],a,j,o,h=>by simp at h
 |o' ::r,a,j,o,h=>by simp only[ym];cases j with|zero=>simp only[i?,wO]at h;subst h;refine⟨a,z?, ?_,λk f=>?_⟩;rw[lK r _ _ z?];simp;rw[lK r _ k v?];simp at f;simp[c? f]|succ j=>simp only[Q?]at h;obtain⟨b,e,d,c⟩:=KF r (a++[NU a o']) j o h;simp only[Z.length_append,Z.length_singleton]at e d c;rw[show a.length+1+j=a.length+(j+1)from o?]at e d c;exact⟨b,e,d,c⟩
def fwdOK(os:Z K):J:=os.zipIdx.all λx=>x.1.after.toList.all λe=> !Region.binds .any e || decide (e.on<x.2)
def Aj(os:Z K)(a:Z Y):J:=(L? os.length).all λj=>(L? j).all λi=>ordered a i j || match os[i]?,os[j]? with
 |some x,V y=>x.apart os.toArray y
 |_,_=>U
def Wi(os:Z K):J:=fwdOK os&&Aj os (ym [] os)
theorem TE{os:Z K}(h:fwdOK os=U){j:Y}{o:K}(a:os[j]? =V o){e:Edge}(b:e∈o.after)(c:Region.binds .any e=U):e.on<j:=by have f:=K!.1 h (o,j) (by rw[Z.mem_zipIdx_iff_getElem?];exact a);have d:=K!.1 f e (by simpa using b);simpa[c]using d
theorem apart_spec{os:Z K}{b:Z Y}(h:Aj os b=U){i j:Y}{x y:K}(a:i<j)(d:os[i]? =V x)(c:os[j]? =V y):ordered b i j=U\/x.apart os.toArray y=U:=by have e:j<os.length:=(qK c).1;have f:=K!.1 (K!.1 h j (by simpa using e)) i (by simpa using a);simpa[d,c]using f
def C5(os:Z K)(D:Y->J):Prop:= ∀j o,os[j]? =V o->D j=U-> ∀e∈o.after,Region.binds .any e=U->D e.on=U
theorem X9{os:Z K}(l:fwdOK os=U){D:Y->J}(m:C5 os D): ∀(j:Y)(o:K),os[j]? =V o->
  (∀ e∈o.after,Region.binds .any e=U->D e.on=U)-> ∀i,ordered (ym [] os) i j=U->D i=U:=by intro j;induction j using s? with|_ j k=>intro o c q i hi;obtain⟨ms',n,f,d⟩:=KF os [] j o c;simp only[Z.length_nil,x!]at n f d;unfold ordered at hi;rw[f]at hi;obtain⟨e,e1,e2,e3⟩:=Dt hi;have b:=TE l c e1 e2;have a:=q e e1 e2;rcases e3 with rfl|e3;exact a;rw[d _ b]at e3;have g:e.on<os.length:=Y.lt_trans b (qK c).1;exact k e.on b os[e.on] (yc g) (λp r h=>m e.on _ (yc g) a p r h) i e3
def cJ:Z K->Z Rc->Y->(Y->J)->uS->uS
 |o::os,c::cs,i,D,E=>cJ os cs (i+1) D (if D i=U then iC o.dst c.v E else E)
 |_,_,_,_,E=>E
def yd:Z Rc->Y->(Y->J)->qt->qt
 |c::cs,i,D,H=>yd cs (i+1) D (if D i=U then zm c.ws H else H)
 |[],_,_,H=>H
theorem av{t:Y}{D D' :Y->J}: ∀(os:Z K)(cs:Z Rc)(i:Y)(E a :uS),(∀ k o,os[k]? =V o->o.dst=V t->D (i+k)=D' (i+k))->E.get t=a.get t->
  (cJ os cs i D E).get t=(cJ os cs i D' a).get t
 |[],_,_,_,_,_,h=>by simpa[cJ]using h
 |_::_,[],_,_,_,_,h=>by simpa[cJ]using h
 |o::os,c::cs,i,E,a,f,h=>by simp only[cJ];refine av os cs (i+1) _ _ (λk g d e =>?_) ?_;have:=f (k+1) g (by simpa using d) e;rwa[show i+1+k=i+(k+1)from o?];by_cases b:o.dst=V t;have:=f 0 o rfl b;simp only[a!]at this;rw[this];split;rw[iD,iD,if_pos b,if_pos b];exact h;(have e1:(if D i=U then iC o.dst c.v E else E).get t=E.get t:=by split;rw[iD,if_neg b];rfl);(have e2:(if D' i=U then iC o.dst c.v a else a).get t=a.get t:=by split;rw[iD,if_neg b];rfl);rw[e1,e2,h]
theorem Zc: ∀(os:Z K)(cs:Z Rc)(i:Y)(D:Y->J)(E:uS),(∀ k,i<=k->D k=N)->cJ os cs i D E=E
 |[],_,_,_,_,_=>rfl
 |_::_,[],_,_,_,_=>rfl
 |o::os,c::cs,i,D,E,h=>by simp only[cJ,h i (ke _),vH,if_false];exact Zc os cs (i+1) D E λk hk=>h k o?
theorem rE: ∀(cs:Z Rc)(i:Y)(D:Y->J)(H:qt),(∀ k,i<=k->D k=N)->yd cs i D H=H
 |[],_,_,_,_=>rfl
 |c::cs,i,D,H,h=>by simp only[yd,h i (ke _),vH,if_false];exact rE cs (i+1) D H λk hk=>h k o?
theorem YU{t:Y}{D:Y->J}: ∀(os:Z K)(cs:Z Rc)(i:Y)(E:uS)(j:Y)(o:K)(c:Rc),os[j]? =V o->cs[j]? =V c->o.dst=V t->D (i+j)=U->
  (∀ k o',j<k->os[k]? =V o' ->o'.dst=V t->D (i+k)=N)->(cJ os cs i D E).get t=c.v
 |[],_,_,_,j,o,c,a,_,_,_,_=>by simp at a
 |_::_,[],_,_,j,o,c,_,b,_,_,_=>by simp at b
 |o' ::os,l ::cs,i,E,j,o,c,a,b,g,h,hl=>by simp only[cJ];cases j with|zero=>simp only[i?,wO]at a b;subst a b;simp only[a!]at h;rw[h];simp only[if_true];rw[av (D' :=λ_=>N) os cs (i+1) _ (iC o'.dst l.v E) (λk d e f=>?_) rfl,Zc _ _ _ _ _ (λ_ _=>rfl),iD,if_pos g];have:=hl (k+1) d o? (by simpa using e) f;rwa[show i+1+k=i+(k+1)from o?]|succ j=>simp only[Q?]at a b;refine YU os cs (i+1) _ j o c a b g (by rwa[show i+1+j=i+(j+1)from o?]) λk d hk e f=>?_;have:=hl (k+1) d o? (by simpa using e) f;rwa[show i+1+k=i+(k+1)from o?]
theorem Ml(ws:Z (Y×qD)){H a :qt}{γ:Y}(h:H.get γ=a.get γ):(zm ws H).get γ=(zm ws a).get γ:=by by_cases c:γ∈ws.map (·.1);exact l7 ws H a γ c;have b: ∀x∈ws,x.1≠γ:=λx d e=>c (by rw[<- e];exact B?.2 ⟨x,d,rfl⟩);rw[kX ws _ γ b,kX ws _ γ b,h]
theorem s8{γ:Y}{D D' :Y->J}: ∀(cs:Z Rc)(i:Y)(H a :qt),(∀ k c,cs[k]? =V c->γ∈c.keys->D (i+k)=D' (i+k))->H.get γ=a.get γ->
  (yd cs i D H).get γ=(yd cs i D' a).get γ
 |[],_,_,_,_,h=>by simpa[yd]using h
 |c::cs,i,H,a,f,h=>by simp only[yd];refine s8 cs (i+1) _ _ (λk j l m=>?_) ?_;have:=f (k+1) j (by simpa using l) m;rwa[show i+1+k=i+(k+1)from o?];by_cases d:γ∈c.keys;have:=f 0 c rfl d;simp only[a!]at this;rw[this];split;exact Ml _ h;exact h;(have b: ∀x∈c.ws,x.1≠γ:=λx g e=>d (by rw[<- e];exact B?.2 ⟨x,g,rfl⟩);have e1:(if D i=U then zm c.ws H else H).get γ=H.get γ:=by split;exact kX _ _ _ b;rfl);(have e2:(if D' i=U then zm c.ws a else a).get γ=a.get γ:=by split;exact kX _ _ _ b;rfl);rw[e1,e2,h]
theorem Vd{γ:Y}{D:Y->J}: ∀(cs:Z Rc)(i:Y)(H:qt)(j:Y)(c:Rc),cs[j]? =V c->γ∈c.keys->D (i+j)=U->
  (∀ k c',j<k->cs[k]? =V c' ->γ∈c'.keys->D (i+k)=N)-> ∀f,(yd cs i D H).get γ=(zm c.ws f).get γ
 |[],_,_,j,c,a,_,_,_,_=>by simp at a
 |c' ::cs,i,H,j,c,a,g,h,hl,f =>by simp only[yd];cases j with|zero=>simp only[i?,wO]at a;subst a;simp only[a!]at h;rw[h];simp only[if_true];rw[s8 (D' :=λ_=>N) cs (i+1) _ (zm c'.ws H) (λk d b e=>?_) rfl,rE _ _ _ _ (λ_ _=>rfl)];exact l7 _ _ _ _ g;have:=hl (k+1) d o? (by simpa using b) e;rwa[show i+1+k=i+(k+1)from o?]|succ j=>simp only[Q?]at a;refine Vd cs (i+1) _ j c a g (by rwa[show i+1+j=i+(j+1)from o?]) (λk d hk b e=>?_) f;have:=hl (k+1) d o? (by simpa using b) e;rwa[show i+1+k=i+(k+1)from o?]
def uY(H:qt)(nx:Y)(e:ru):Prop:=
 (∀ β b,H.get β=V b->β<nx)->nx<=e.2.2/\(∀ x∈e.2.1,x.1<e.2.2)/\ ∀γ,nx<=γ->γ<e.2.2->γ∈e.2.1.map (·.1)
section
variable {H:qt} {nx:Y}
theorem keys_nil(v:AV):uY H nx (v,[],nx):=λ_=>⟨ke _,z?,λγ h1 a=>by simp at a;omega⟩
theorem ax(v:AV)(b:qD):uY H nx (v,[(nx,b)],nx+1):=λ_=>⟨Y.le_succ _,z?,λγ h1 a=>by simp at a |-; omega⟩
theorem Xk(v:AV){β:Y}{b c :qD}(h:H.get β=V b):uY H nx (v,[(β,c)],nx):=λhn=>⟨ke _,by simpa using hn β b h,λγ h1 a=>by simp at a;omega⟩
theorem ay{v:T AV}{e:ru}(h:mY v nx=V e):uY H nx e:=by unfold mY at h;split at h<;>cases h;exact keys_nil _
theorem AZ{v:T PV}{e:ru}(h:Vm v nx=V e):uY H nx e:=by unfold Vm at h;split at h<;>cases h;exact keys_nil _
def Jf(H:qt)(ws:Z (Y×qD)):Prop:=ws=[]\/ ∃β b a,H.get β=V b/\ws=[(β,a)]
theorem NK{ws:Z (Y×qD)}(v:AV)(h:Jf H ws):uY H nx (v,ws,nx):=by rcases h with rfl|⟨β,b,b',a,rfl⟩;exact keys_nil _;exact Xk _ a
theorem Q7{ws:T (Z (Y×qD))}{e:ru}(h:rn ws nx=V e)(a: ∀l,ws=V l->Jf H l):uY H nx e:=by unfold rn at h;split at h<;>cases h;exact NK _ (a _ rfl)
theorem H7{d β a i o size:Y}{c:Z AV}{es:Z (Z AV)}{l:Z (Y×qD)}{b:qD}(hb:H.get β=V b)(h:JZ d β a i o size c es=V l):Jf H l:=by unfold JZ at h;cases h
theorem FT{β a i o size:Y}{v:AV}{d:Z Y}{es:Z PV}{e:T (Y×Y×Y)}{l:Z (Y×qD)}{b:qD}(c:H.get β=V b)(h:WN β a i o size v d es e=V l):Jf H l:=by unfold WN at h;split at h;split at h<;>cases h;exact .inr ⟨_,_,_,c,rfl⟩;cases h
theorem Co{ti:TI}{a v:AV}{l:Z (Y×qD)}(h:Z7 ti a v H=V l):Jf H l:=by unfold Z7 at h;split at h;rotate_left;cases h;split at h;split at h;rename_i b;split at h<;>cases h;exact .inr ⟨_,_,_,b,rfl⟩;cases h;split at h;split at h;rename_i b;split at h;split at h;split at h<;>cases h;exact .inr ⟨_,_,_,b,rfl⟩;cases h;cases h;rename_i b;exact H7 b h;cases h;split at h;rename_i b;exact H7 b h;rename_i b;exact FT b h;cases h;cases h
theorem Nf{a:TI}{m k v:AV}{l:Z (Y×qD)}(h:ic a m k v H=V l):Jf H l:=by unfold ic at h;cases h
theorem HJ{G:GP}{t:M}{m k x:AV}{e:ru}(h:X3 G t m k x H nx=V e):uY H nx e:=by unfold X3 at h;split at h;split at h;exact Q7 h λl hl=>Nf hl;cases h;cases h
theorem Yv{G:GP}{t:M}{x:AV}{e:ru}(h:cG G t x H nx=V e):uY H nx e:=by unfold cG at h;cases h
theorem WU{a:TI}{m k:AV}{v:PV}{l:Z (Y×qD)}(h:dc a m k v H=V l):Jf H l:=by unfold dc at h;split at h;split at h;split at h;rename_i b;split at h<;>cases h<;>exact .inr ⟨_,_,_,b,rfl⟩;cases h;cases h;cases h
theorem Cl{a b:TI}{m k:AV}{v:AV}{l:Z (Y×qD)}(h:X1 a b m k H=V (v,l)):Jf H l:=by unfold X1 at h;cases h
theorem Vy{m st:AV}{v:PV}{l:Z (Y×qD)}(h:pa m st v H=V l):Jf H l:=by unfold pa at h;cases h
theorem PQ{a:TI}{m k:AV}{l:Z (Y×qD)}(h:fV a m k H=V l):Jf H l:=by unfold fV at h;split at h;split at h<;>cases h;exact .inl rfl;split at h;split at h;rename_i b;split at h<;>cases h<;>exact .inr ⟨_,_,_,b,rfl⟩;cases h;cases h;cases h
theorem Ks{a:TI}{s:AV}{src:Z (Z PV)}{e:ru}(h:wd a s src nx nx (nx+1)=V e):uY H nx e:=by unfold wd at h;split at h;cases h;exact keys_nil _;split at h<;>cases h;exact ax _ _
theorem Nz{a:TI}{s:AV}{src:Z (Z PV)}{β:Y}{b:qD}{e:ru}(c:H.get β=V b)(h:wd a s src β nx nx=V e):uY H nx e:=by unfold wd at h;split at h;cases h;exact keys_nil _;split at h<;>cases h;exact Xk _ c
theorem Hu{a:TI}{s x:AV}{e:ru}(h:rB a s x H nx=V e):uY H nx e:=by unfold rB at h;cases h
theorem N9{b:TI}{s x:AV}{e:ru}(h:ng b s x H nx=V e):uY H nx e:=by unfold ng at h;split at h;exact Hu h;split at h;rotate_left;cases h;split at h;exact Ks h;exact Ks h;split at h;rename_i a;split at h;exact Nz a h;cases h;rename_i a;split at h;split at h<;>cases h<;>exact Xk _ a;cases h;cases h;cases h
theorem Cj{a:TI}{s x:AV}{e:ru}(h:Kh a s x H nx=V e):uY H nx e:=by unfold Kh at h;split at h;cases h;split at h;split at h;rename_i b;split at h<;>cases h;exact Xk _ b;cases h;cases h
theorem Hz{src dst:TD}{a:M->T TI}{x:AV}{e:ru}(h:db src dst a x H nx=V e):uY H nx e:=by unfold db at h;split at h;cases h;exact keys_nil _;cases h;exact keys_nil _;split at h;split at h;split at h;split at h;split at h<;>cases h;exact keys_nil _;cases h;cases h;cases h;cases h;split at h;split at h;cases h;exact ax _ _;cases h;cases h;cases h
theorem Hw{b:M}{a:TI}{s x:AV}{e:ru}(h:mI b a s x H nx=V e):uY H nx e:=by unfold mI at h;cases h
theorem Hv{a:TI}{s x:AV}{e:ru}(h:tz a s x H nx=V e):uY H nx e:=by unfold tz at h;split at h;rotate_left;cases h;split at h;rotate_left;cases h;split at h;rotate_left;cases h;rename_i b;split at h<;>cases h;exact Xk _ b
theorem Rt{d:M}{a:TI}{s x:AV}{e:ru}(h:orT (ng a s x H nx) (orT (mI d a s x H nx) (tz a s x H nx))=V e):uY H nx e:=by cases c:ng a s x H nx with|some r=>rw[c]at h;cases h;exact N9 c|none=>rw[c]at h;cases b:mI d a s x H nx with|some r=>rw[b]at h;cases h;exact Hw b|none=>rw[b]at h;exact Hv h
theorem Vz{x:AV}{e:ru}(h:ct x H nx=V e):uY H nx e:=by unfold ct at h;cases h
theorem Jy{el:M}{p x:AV}{e:ru}(h:nS el p x H nx=V e):uY H nx e:=by unfold nS at h;cases h
theorem N8{G:GP}{t:M}{ti:TI}{e:ru}(h:Kg G t ti nx=V e):uY H nx e:=by unfold Kg at h;cases h
theorem Hy{G:GP}{b:Builtin}{c:Z M}{args:Z AV}{e:ru}(h:da G b c args H nx=V e):uY H nx e:=by unfold da at h;split at h;split at h;split at h;split at h<;>cases h;exact keys_nil _;cases h;cases h;exact Vz h;{split at h;rotate_left;cases h;split at h;rotate_left;cases h;split at h;rotate_left;cases h;split at h;rotate_left;cases h;exact Jy h};split at h<;>cases h;exact keys_nil _;split at h<;>cases h;exact keys_nil _;split at h;split at h;split at h;exact Rt h;cases h;split at h;exact Rt h;cases h;cases h;cases h;split at h;split at h;split at h;exact Cj h;cases h;cases h;cases h;split at h;split at h;split at h;split at h<;>cases h;rename_i a;exact NK _ (PQ a);cases h;cases h;cases h;cases h
theorem Vn(g:Y->Y): ∀(H:qt)(i j:Y),bS i H=U->i<=j->j<i+H.length->g j∈(uv g H).map (·.1)
 |[],i,j,_,d,c=>by simp at c;omega
 |(k,b)::r,i,j,a,d,c=>by simp only[bS,xn,decide_eq_true_eq]at a;obtain⟨rfl,a⟩:=a;simp only[uv,e?,K?];by_cases h:j=k;exact .inl (by rw[h]);exact .inr (Vn g r (k+1) j a o? (by simp only[b?]at c;omega))
theorem YK{O:jb}{f:I}{args:Z AV}{e:ru}(h:Q0 O f args H nx=V e):uY H nx e:=by
 unfold Q0 at h;split at h;cases h;rename_i L H0 m;split at h;cases h;rename_i v c ep;split at h<;>cases h;rename_i a;intro hn;obtain⟨hs,_,_⟩:=Zx Z.nodup_nil m;refine⟨Y.le_add_right _ _,λx g=>?_,λγ h1 k=>?_⟩;obtain⟨j,_,q2,d⟩:=eK _ c 0 a x g;rw[d];by_cases i:j<L.length;(have b:L[j]? =V L[j]:=by simp[i]);(obtain⟨l,n,_⟩:=hs.has _ (zj b);have:=hn _ l n;have e1:jT L nx j=L[j]:=by simp[jT,b]);simp only[e1];omega;(have e1:jT L nx j=nx+(j-L.length):=by simp[jT,Q_ (by omega:L.length<=j)]);simp only[e1];omega;simp only at k;have:=Vn (jT L nx) c 0 (L.length+(γ-nx)) a (A! _) o?;have e1:jT L nx (L.length+(γ-nx))=γ:=by simp[jT,Q_ (by omega:L.length<=L.length+(γ-nx))];omega
 rwa[e1]at this
theorem aop_keys{G:GP}{O:jb}{o:Op}{E:uS}{e:ru}(h:ry G O o E H nx=V e):uY H nx e:=by cases o with|move x=>cases h;exact keys_nil _|assign x=>cases h;exact keys_nil _|pick c a b=>simp only[ry]at h;split at h<;>cases h;exact keys_nil _|alloc t=>simp only[ry]at h;split at h;rotate_left;cases h;split at h;exact N8 h;cases h;exact ax _ _|box t x=>simp only[ry]at h;split at h;unfold aBox at h;split at h;split at h<;>cases h;exact keys_nil _;cases h;exact ax _ _;cases h|build t g=>simp only[ry]at h;split at h;exact ay h;cases h|buildSlice t n g=>simp only[ry]at h;split at h;split at h;split at h;split at h;split at h;split at h<;>cases h;exact ax _ _;split at h<;>cases h;exact ax _ _;cases h;cases h;cases h;cases h|load t a=>simp only[ry]at h;split at h;exact ay h;cases h|store t a x=>simp only[ry]at h;split at h;exact Q7 h λl hl=>Co hl;cases h|nilCheck x=>simp only[ry]at h;split at h<;>cases h<;>exact keys_nil _|binOp op t x y z=>simp only[ry]at h;split at h;exact AZ h;cases h|unOp op t x=>exact AZ h|convert s d x=>simp only[ry]at h;split at h;exact Yv h;split at h;exact Hz h;cases h|makeFunc fn a b=>(cases fn with|func f=>cases h;exact keys_nil _|_=>cases h)|makeMap t r=>(cases r with|none=>simp only[ry]at h;cases h;exact ax _ _|some _=>cases h)|makeSlice t l c=>simp only[ry]at h;split at h;unfold fg at h;split at h;split at h;split at h<;>cases h;exact ax _ _;cases h;cases h;cases h|slice t x lo hi mx=>simp only[ry]at h;split at h;exact ay h;cases h|fieldAddr t x f=>simp only[ry]at h;split at h;exact ay h;cases h|field t x f=>simp only[ry]at h;split at h;split at h;split at h;split at h;exact ay h;cases h;cases h;cases h;cases h|indexAddr t x i=>simp only[ry]at h;split at h;exact ay h;cases h|index t x i=>simp only[ry]at h;split at h;split at h;split at h<;>cases h;exact keys_nil _;split at h;split at h;exact ay h;cases h;cases h;cases h;cases h|lookup t m k ok=>simp only[ry]at h;split at h;exact ay h;cases h|mapUpdate t m k x=>simp only[ry]at h;split at h;exact HJ h;split at h;split at h;exact Q7 h λl hl=>WU hl;cases h;cases h|insert t m k x=>simp only[ry]at h;split at h;split at h;exact Q7 h λl hl=>WU hl;cases h;cases h|mapEntry t m k=>simp only[ry]at h;split at h;split at h<;>cases h;rename_i j;exact NK _ (Cl j);cases h|entryStore t m st x=>simp only[ry]at h;split at h;exact Q7 h λl hl=>Vy hl;cases h|extract t i=>simp only[ry]at h;split at h;split at h<;>cases h;exact keys_nil _;cases h|call c=>(obtain⟨callee,args,ai⟩:=c;cases callee with|builtin b=>exact Hy h|value f=>simp only[ry]at h;split at h;exact YK h;exact YK h;cases h|_=>cases h)|_=>cases h
end
def Ex.Ts:Ex->Exit
 | .normal=> .normal
 | .ret=> .ret
 | .exit id=> .exit id
structure ZZ (k:Y) (w:World) (H:qt) (ι:uT) (Im:Y->Prop) (w' :World) (H' :qt) (ι' :uT) (wc:Y->Prop):Prop where
 comp: ∀β b,β<k->H.get β=V b-> ∃b',H'.get β=V b' /\jJ b b' (ι β) (ι' β)
 im: ∀b,Im b->wc b
 sR: ∀b,wc b->Im b\/w.heap.size<=b\/ ∃β x,H.get β=V x/\x.uH (ι β) b
 tC: ∀β x z,H'.get β=V x->x.uH (ι' β) z->w.heap.size<=z\/ ∃β0 x0,H.get β0=V x0/\x0.uH (ι β0) z
 wV: ∀b,b<w.heap.size->(∀ β x,H.get β=V x-> ¬x.uH (ι β) b)->w'.heap[b]? =w.heap[b]?
 size:w.heap.size<=w'.heap.size
 io:w'.os=w.os/\w'.output=w.output
theorem yA.toK{w a :World}{H d :qt}{ι ι' :uT}{c wc:Y->Prop}(h:yA w H ι c a d ι' wc)(k:Y):ZZ k w H ι c a d ι' wc:=
 ⟨λβ b _ e=>h.comp β b e,h.im,h.sR,h.tC,h.wV,h.size,h.io⟩
theorem ZZ.full{k:Y}{w a :World}{H e :qt}{ι ι' :uT}{d wc:Y->Prop}(h:ZZ k w H ι d a e ι' wc)(f: ∀β b,H.get β=V b->β<k):yA w H ι d a e ι' wc:=
 ⟨λβ b c=>h.comp β b (f β b c) c,h.im,h.sR,h.tC,h.wV,h.size,h.io⟩
theorem ZZ.trans{k:Y}{w i w2:World}{H H1 p:qt}{ι ι1 ι2:uT}{o m n:Y->Prop}
  (a:ZZ k w H ι o i H1 ι1 m) (d:ZZ k i H1 ι1 m w2 p ι2 n):ZZ k w H ι o w2 p ι2 n where
 comp:=λβ b j h=>by obtain⟨s,g1,r⟩:=a.comp β b j h;obtain⟨b2,g2,q⟩:=d.comp β s j g1;exact⟨b2,g2,Kl r q⟩
 im:=λb h=>d.im b (a.im b h)
 sR:=λb h=>by rcases d.sR b h with h|h|⟨β,x,f,hu⟩;exact a.sR b h;exact .inr (.inl (c! a.size h));rcases a.tC β x b f hu with h|⟨β0,e,g,c⟩;exact .inr (.inl h);exact .inr (.inr ⟨β0,e,g,c⟩)
 tC:=λβ x z h hu=>by rcases d.tC β x z h hu with h|⟨β0,e,g,c⟩;exact .inl (c! a.size h);exact a.tC β0 e z g c
 wV:=λb l hn=>by
  have e1:=a.wV b l hn;have e2:=d.wV b (G! l a.size) (λβ x f hu=>by
   rcases a.tC β x b f hu with h|⟨β0,e,g,c⟩
   ·omega
   exact hn β0 e g c)
  exact e2.trans e1
 size:=c! a.size d.size
 io:=⟨d.io.1.trans a.io.1,d.io.2.trans a.io.2⟩
def Jw[xY](k:Y)(w:World)(H:qt)(ι:uT)(d:Y->Prop)(nt:Y)(s:St)(a:Act)(c :World):Prop:=
 ∃ι' b,Inv c a s ι' b nt/\ZZ k w H ι d c s.heap ι' b
theorem Jw.from[xY]{k:Y}{w:World}{H:qt}{ι:uT}{d:Y->Prop}{b:World}{H1:qt}{ι1:uT}{c:Y->Prop}{nt:Y}{s:St}{a:Act}{w' :World}(h:Jw k b H1 ι1 c nt s a w')(f:ZZ k w H ι d b H1 ι1 c):
  Jw k w H ι d nt s a w' :=
 let⟨ι',e,i,g⟩:=h
 ⟨ι',e,i,f.trans g⟩
def LoopOK[xY](P:Program)(G:GP)(f:I)(id:Y)(s:St)(ex:Ex)(h :St):Prop:=
 ∀b c,G.fn f=V b->xj b.body id=V c->(∀ i,ex= .exit i->i≠id)/\ ∃n,∀(w:World)(ι:uT)(d:Y->Prop)(a:Act),Inv w a s ι d b.nt->
  Code.rounds P c (λe j g =>e=(match ex with| .exit i=>Exit.exit i| .ret=> .ret| .normal=> .exit id)/\Jw (s.nx-(G.spec f id).off) w s.heap ι d b.nt h j g) n a w
structure Sound [xY] (P:Program) (G:GP) (O:jb):Prop extends SoundCall P O where
 loop: ∀f id s ex s',O.loop f id s=V (ex,s')->LoopOK P G f id s ex s'
def opsOK(nt:Y)(ops:Z K):J:=ops.all λo=>match o.dst with|some d=>decide (d<nt)|none=>U
theorem UB{nt:Y}{ops:Z K}(h:opsOK nt ops=U):Gw nt ops:=by intro o b t a;have:=K!.1 h o b;rw[a]at this;simpa using this
section
variable [xY] {P:Program} {w:World} {H:qt} {ι:uT} {Im:Y->Prop}
theorem KS: ∀(E:uS)(l:Z Y)(t:Y),(restrict E l).get t=if t∈l then E.get t else .undef
 |E,[],t=>by simp[restrict,U!]
 |E,x::r,t=>by simp only[restrict,U!,KS E r t,K?];by_cases h:x=t;subst h;simp;simp[h,a_ h]
theorem Zo{a:Act}{E:uS}(b: ∀t,RA w H ι Im (E.get t) (a.tmps.getD t undef))(l:Z Y): ∀t,RA w H ι Im ((restrict E l).get t) (a.tmps.getD t undef):=by intro t;rw[KS];split;exact b t;exact .undef _
theorem eL{a:Act}{s:St}{nt:Y}(h:Inv w a s ι Im nt)(l:Z Y):Inv w a { s with env:=restrict s.env l } ι Im nt:=
 ⟨h.heap,Zo h.env l,h.nx,h.size,h.defers⟩
theorem mX(n:Y): ∀(H:qt)(γ:Y),(S' n H).get γ=if γ<n then H.get γ else C
 |[],γ=>by simp[S',L!]
 |(i,b)::r,γ=>by simp only[S'];split;rename_i h;simp only[L!,mX n r γ];by_cases e:i=γ;subst e;simp[h];simp[e];rename_i h;rw[mX n r γ];simp only[L!];by_cases e:i=γ;subst e;simp[h];simp[e]
theorem Z9(n:Y): ∀(l:Z Y),ak n l=U↔ ∀x∈l,x<n
 |[]=>by simp[ak]
 |x::r=>by simp[ak,Z9 n r]
theorem QJ{z :qt}{x:AV}{v:Value}(E:RA w H ι Im x v)(e: ∀β∈x.refs,∀ b,H.get β=V b->z.get β=V b):RA w z ι Im x v:=by
 induction E with
 |undef v=>exact .undef v
 |pv p v h=>exact .pv p v h
 |ptr β o c j u=>exact .ptr β o c (e β (by simp[z!]) _ j) u
 |bP β m i o Q D b j q h=>exact .bP β m i o Q D b (e β (by simp[z!]) _ j) q h
 |row β m off n v b F j u q h=>exact .row β m off n v b F (e β (by simp[z!]) _ j) u q h
 |cE c o b off l R L y h=>exact .cE c o b off l R L y h
 |QZ a=>exact .QZ a
 |map β es xf j=>exact .map β es xf (e β (by simp[z!]) _ j)
 |XK f a b B A W X _ _ s r=>
  exact .XK f a b B A W X (λi x v d k=>s i x v d k λβ g=>e β (by simp only[z!,t?];exact .inl (uu d g)))
   (λi x v d k=>r i x v d k λβ g=>e β (by simp only[z!,t?];exact .inr (uu d g)))
 |agg c l hl y _ t=>exact .agg c l hl y λi x v d k=>t i x v d k λβ g=>e β (by simp only[z!];exact uu d g)
 |xL c l hl _ t=>exact .xL c l hl λi x v d k=>t i x v d k λβ g=>e β (by simp only[z!];exact uu d g)
theorem Gs: ∀{E:uS}{n:Y},uS.below n E=U-> ∀t,∀ β∈(E.get t).refs,β<n
 |[],n,_,t,β,h=>by simp[U!,z!]at h
 |(i,v)::r,n,a,t,β,h=>by simp only[uS.below,xn]at a;simp only[U!]at h;split at h;exact(Z9 n _).1 a.1 β h;exact Gs a.2 t β h
theorem YG: ∀{H:qt}{n:Y},q1v n H=U-> ∀{γ:Y}{b:qD},H.get γ=V b-> ∀β∈b.refs,β<n
 |[],n,_,γ,b,h=>by simp[L!]at h
 |(i,c)::r,n,a,γ,b,h=>by simp only[q1v,xn]at a;simp only[L!]at h;split at h;cases h;exact λβ d=>(Z9 n _).1 a.1 β d;exact YG a.2 h
theorem upto_ok(hi:zr w H ι Im)(n:Y)(hb:q1v n (S' n H)=U):zr w (S' n H) ι Im where
 TG:=hi.TG
 HS:=hi.HS
 d5:=λγ b h=>by
  rw[mX]at h;split at h;rotate_left;cases h
  rename_i jv;have d:=hi.d5 γ b h;have hrefs: ∀β∈b.refs,β<n:=YG hb (γ:=γ) (by rw[mX,if_pos jv];exact h);cases b with
   |box c=>obtain⟨f,elem,r,q,o,m,l,g⟩:=d;refine⟨f,elem,r,q,o,m,l,λi x v a b=>QJ (g i x v a b) λβ L R D=>?_⟩;rw[mX,if_pos (hrefs β (by simp only[q17];exact uu a L))];exact D
   |row t sz es=>cases t<;>exact d
   |map es xf=>exact d
   |rq sz es=>
    obtain⟨f,elem,r,q,o,m,l,g,B,A,y⟩:=d;refine⟨f,elem,r,q,o,m,l,g,B,A,λi e j x a b=>?_⟩;obtain⟨v,F,E⟩:=y i e j x a b;refine⟨v,F,QJ E λβ L R D=>?_⟩;rw[mX,if_pos (hrefs β (by
     simp only[q17,Z.mem_flatMap]
     exact⟨e,zj a,uu b L⟩))]
    exact D
   |we t ds es ZS=>cases t with|true=>exact d|false=>obtain⟨f,elem,r,q,o,m,l,g,B,A,y,q9⟩:=d;refine⟨f,elem,r,q,o,m,l,g,B,A,y,λi p k a b=>?_⟩;obtain⟨v,F,E,X⟩:=q9 i p k a b;refine⟨v,F,E,λγ' W Q=>⟨(X γ' W Q).1,QJ (X γ' W Q).2 λδ hδ c hc=>?_⟩⟩;simp only[z!,Z.mem_singleton]at hδ;subst hδ;rw[mX,if_pos (hrefs _ (by simp[q17,Q]))];exact hc
   |xA=>trivial
 inj:=λγ γ' b R z h s u u' =>by rw[mX]at h s;split at h;rotate_left;cases h;split at s;rotate_left;cases s;exact hi.inj γ γ' b R z h s u u'
 im:=hi.im
 Hn:=λγ b z h hu=>by rw[mX]at h;split at h;exact hi.Hn γ b z h hu;cases h
theorem Bf{a:Act}{nt:Y}{e s i :St}{k:World}{ι0:uT}{m:Y->Prop}(h:Inv w a s ι Im nt)
  (r: ∀β b,e.heap.get β=V b->β<e.nx) (d:yA k e.heap ι0 m w s.heap ι Im) (l:Z Y) (g:narrow l e.nx s=V i):
  Inv w a i ι Im nt/\yA k e.heap ι0 m w i.heap ι Im:=by unfold narrow at g;simp only at g;split at g<;>cases g;rename_i j;simp only[xn]at j;refine⟨⟨upto_ok h.heap _ j.2,λt=>?_,λβ b c=>?_,h.size,h.defers⟩,⟨λβ b c=>?_,d.im,d.sR,λγ x z f hu=>?_,d.wV,d.size,d.io⟩⟩;refine QJ (Zo h.env l t) λβ p b c=>?_;rw[mX,if_pos (Gs j.1 t β p)];exact c;simp only[mX]at c;split at c;assumption;cases c;obtain⟨q,o,n⟩:=d.comp β b c;exact⟨q,by simp only[mX];rw[if_pos (r β b c)];exact o,n⟩;simp only[mX]at f;split at f;exact d.tC γ x z f hu;cases f
theorem Ro{a:Act}{nt:Y}{c s:St}{d:World}{ι0:uT}{f:Y->Prop}(h:Inv w a s ι Im nt)
  (i: ∀β b,c.heap.get β=V b->β<c.nx) (e:yA d c.heap ι0 f w s.heap ι Im) (l:Z Y):
  Inv w a (Qe l c.nx s) ι Im nt/\yA d c.heap ι0 f w (Qe l c.nx s).heap ι Im:=by unfold Qe;split;rename_i s' g;exact Bf h i e l g;exact⟨eL h l,e⟩
theorem RZ(g:Y->Y): ∀(E:uS)(t:Y),(Fl g E).get t=(E.get t).aa g
 |[],t=>by simp[Fl,U!,AV.aa]
 |(i,v)::r,t=>by simp only[Fl,U!];split;rfl;exact RZ g r t
theorem BI: ∀{E:uS}{t β:Y},β∈(E.get t).refs->β∈BH E
 |[],t,β,h=>by simp[U!,z!]at h
 |(i,v)::r,t,β,h=>by simp only[U!]at h;simp only[BH,t?];split at h;exact .inl h;exact .inr (BI h)
theorem Bv(m:Y)(r:Z Y){β:Y}(h:β<m):(L? m++r)[β]? =V β:=by rw[c? (by simpa using h)];simp[h]
theorem YL{a:Act}{nt:Y}{s d :St}(h:Inv w a s ι Im nt)(l:Z Y)(n:Y)(e:canon l n s=V d):
  ∃ι',Inv w a d ι' Im nt/\ZZ n w s.heap ι Im w d.heap ι' Im:=by unfold canon at e;split at e<;>cases e;rename_i L v u;obtain⟨hs,r,g,o⟩:=Zx q1a u;refine⟨K0 ι L,⟨hs.hinv h.heap,λt=>?_,λβ b c=>?_,h.size,h.defers⟩,⟨λβ b m c=>?_,λ_ h=>h,λ_ h=> .inl h,λγ x z k hu=>?_,λ_ _ _=>rfl,ke _,⟨rfl,rfl⟩⟩⟩;rw[RZ];exact JQ _ (Zo h.env l t) λβ j b c=>hs.Tl (r β (BI j)) b c;obtain⟨γ,f,i,_⟩:=hs.inv (ι:=ι) c;have:=(qK i).1;show β<v.length;rw[hs.len];exact this;(have hl:L[β]? =V β:=by rw[o];exact Bv n g m);(refine⟨b.aa (pos L),by rw[hs.look,hl];simp[c], ?_⟩;have:K0 ι L β=ι β:=by simp[K0,hl]);rw[this];exact WZ (pos L) (ni b (ι β));obtain⟨β,f,h1,q,rfl,p⟩:=hs.inv (ι:=ι) k;rw[qD.tK,p]at hu;exact .inr ⟨β,f,q,hu⟩
theorem US: ∀(E:uS)(n:Y)(x:AV)(t:Y),(setEnv E n x).get t=if t=n then x else E.get t
 |[],n,x,t=>by simp only[setEnv,U!];by_cases h:n=t;simp[h];simp[h,a_ h]
 |(i,v)::r,n,x,t=>by simp only[setEnv];split;rename_i h;subst h;simp only[U!];by_cases a:i=t;simp[a];simp[a,a_ a];rename_i h;simp only[U!,US r n x t];by_cases a:i=t;subst a;simp[h];simp[a]
theorem nilRow(hi:zr w H ι Im){nx:Y}(d: ∀β b,H.get β=V b->β<nx):
  zr w (H.put nx (.row U 0 [])) (wh ι nx ⟨0,0,[]⟩) Im/\yA w H ι Im w (H.put nx (.row U 0 [])) (wh ι nx ⟨0,0,[]⟩) Im:=by have c:=U6 (X:=λ_=>False) (λβ b h=> .inl (d β b h)) id;exact zr.put (VN:=Rq c) hi nx (.row U 0 []) ⟨0,0,[]⟩ (λx a=>by rw[c]at a;cases a) ⟨ke _,rfl,rfl⟩ (λ_ _ _=>rfl) (λh=>by cases h) (λ_=>rfl)
theorem Bh{a :qt}{nx:Y}(b:a.get nx=V (.row U 0 []))(ι' :uT):RA w a ι' Im (.row nx 0 0 0) (.slice C 0 0):=
 .row nx 0 0 0 _ _ rfl b (λ_=>⟨_,_,_,rfl⟩) (λ_ _ _ e=>by cases e;exact ke _) λ_ _ _ e _=>by cases e;exact⟨ke _,z?⟩
theorem Bi{a:Y}{v:Value}(h:RA w H ι Im (.pv (.sl U a [])) v):v= .slice C 0 0:=by have:=h.nZ;cases this;rfl
theorem iB{a:Act}{nt:Y}: ∀(l:Z Y){ι:uT}{s:St},Inv w a s ι Im nt->
  ∃ι',Inv w a (wv l s) ι' Im nt/\yA w s.heap ι Im w (wv l s).heap ι' Im
 |[],ι,s,h=>⟨ι,h,Y! _ _ _ _⟩
 |t::r,ι,s,h=>by simp only[wv];split;(rename_i sz g;obtain⟨j,e1⟩:=nilRow h.heap h.nx;have f:a.tmps.getD t undef= .slice C 0 0:=Bi (g ▸ h.env t);have hinv:Inv w a { env:=setEnv s.env t (.row s.nx 0 0 0),heap:=k_ s.heap s.nx (.row U 0 []),nx:=s.nx+1 } (wh ι s.nx ⟨0,0,[]⟩) Im nt:=by refine⟨j,λd =>?_,λβ b c=>?_,h.size,h.defers⟩;simp only[US];split;rename_i e;subst e;rw[f];exact Bh (by simp[d!]) _;exact(h.env d).mono h.heap e1;simp only[d!]at c;split at c;rename_i e;subst e;exact I_ _;have:=h.nx β b c;exact M_ this);obtain⟨ι',i,e2⟩:=iB r hinv;exact⟨ι',i,e1.trans e2⟩;exact iB r h
theorem pD{a:Act}{nt:Y}: ∀(l:Z (Y×Y)){ι:uT}{s:St},Inv w a s ι Im nt->
  ∃ι',Inv w a (xR l s) ι' Im nt/\yA w s.heap ι Im w (xR l s).heap ι' Im
 |[],ι,s,h=>⟨ι,h,Y! _ _ _ _⟩
 |(t,k)::r,ι,s,h=>by
  simp only[xR];split;rotate_left;exact pD r h;rename_i β o ht;split;rotate_left;exact pD r h;rename_i c j;split;rotate_left;exact pD r h;(rename_i sz F;obtain⟨m,e1⟩:=nilRow h.heap h.nx;have p:β≠s.nx:=λe=>by have:=h.nx β _ j;omega);have g:(k_ s.heap s.nx (.row U 0 [])).get β=V (.box c):=by simp[d!,p,j]
  obtain⟨Q,e2⟩:=zr.put (VN:=noO g rfl) (w' :=w) m β (.box (c.set (o+k) (.row s.nx 0 0 0))) (wh ι s.nx ⟨0,0,[]⟩ β) (λx d=>by rw[g]at d;cases d;rfl) ⟨ke _,rfl,rfl⟩ (λ_ _ _=>rfl)
   (λ_=> .inr ⟨_,g,rfl,rfl⟩) (λE=>by
    obtain⟨u,elem,R,D,B,A,z,n⟩:=m.box g
    refine⟨u,elem,R,by simpa using D,B,by simpa using A,λx d=>?_,λi x v d q=>?_⟩
    ·rcases Z.mem_or_eq_of_mem_set d with d|rfl
     ·exact z x d
     rfl
    rw[Z.getElem?_set]at d
    split at d
    ·rename_i e
     subst e
     split at d<;>cases d
     have:=n (o+k) _ v F q
     rw[Bi this]
     refine Bh ?_ _
     simp[d!,a_ p]
    exact(n i x v d q).mono m E)
  (have hinv:Inv w a { env:=s.env,heap:=k_ (k_ s.heap s.nx (.row U 0 [])) β (.box (c.set (o+k) (.row s.nx 0 0 0))),nx:=s.nx+1 } (wh (wh ι s.nx ⟨0,0,[]⟩) β (wh ι s.nx ⟨0,0,[]⟩ β)) Im nt:=by refine⟨Q,λy =>(h.env y).mono h.heap (e1.trans e2),λγ b f=>?_,h.size,h.defers⟩;simp only[d!]at f;split at f;rename_i e;subst e;have:=h.nx γ _ j;exact M_ this;split at f;rename_i e;subst e;exact I_ _;have:=h.nx γ b f;exact M_ this);obtain⟨ι',L,e3⟩:=pD r hinv;exact⟨ι',L,(e1.trans e2).trans e3⟩
theorem enter_ok{a:Act}{nt:Y}{s:St}(b:sk)(h:Inv w a s ι Im nt):
  ∃ι' wc,Inv w a (enter b s) ι' wc nt/\yA w s.heap ι Im w (enter b s).heap ι' wc:=by unfold enter;obtain⟨ι1,f,e1⟩:=iB b.wv h;obtain⟨ι2,e,e2⟩:=pD b.xR f;obtain⟨c,d,e3⟩:=cy (ei (xR b.xR (wv b.wv s)).env (xR b.xR (wv b.wv s)).heap b.freeze) e;exact⟨ι2,c,eL d b.NT,(e1.trans e2).trans e3⟩
theorem ZZ.NQ{k c :Y}{w a :World}{H d :qt}{ι ι' :uT}{Im wc:Y->Prop}(h:ZZ k w H ι Im a d ι' wc)(hk:c <=k):ZZ c w H ι Im a d ι' wc:=
 ⟨λβ b h1 e=>h.comp β b o? e,h.im,h.sR,h.tC,h.wV,h.size,h.io⟩
theorem Jw.NQ[xY]{k b :Y}{w:World}{H:qt}{ι:uT}{Im:Y->Prop}{nt:Y}{s:St}{a:Act}{w' :World}(h:Jw k w H ι Im nt s a w')(d:b <=k):Jw b w H ι Im nt s a w' :=
 let⟨ι',c,f,e⟩:=h
 ⟨ι',c,f,e.NQ d⟩
theorem Oa{a:Act}{nt:Y}{s d:St}(c:sk)(h:Inv w a s ι Im nt)(e:lE c s=V d):
  ∃ι' f,Inv w a d ι' f nt/\ZZ (d.nx-c.off) w s.heap ι Im w d.heap ι' f/\(∀ β b,s.heap.get β=V b->β<d.nx-c.off):=by
 obtain⟨ι1,l,i,e1⟩:=enter_ok c h;have plain:d=enter c s->c.off=0-> ∃ι' f,Inv w a d ι' f nt/\ZZ (d.nx-c.off) w s.heap ι Im w d.heap ι' f/\(∀ β b,s.heap.get β=V b->β<d.nx-c.off):=by rintro rfl j;refine⟨ι1,l,i,e1.toK _,λβ b n=>?_⟩;obtain⟨p,m,_⟩:=e1.comp β b n;have:=i.nx β p m;omega
 unfold lE at e;split at e;rename_i g;cases e;exact plain rfl (by simp[q1w,g]);rename_i g;have ZN:c.off=c.own:=by simp[q1w,g]
 split at e;rename_i j;cases e;exact plain rfl o?;rename_i k j;split at e;rotate_left;cases e;rename_i s2 q;split at e<;>cases e;rename_i hn;obtain⟨ι2,o,e2⟩:=YL i c.NT s.nx q;have:d.nx-c.off=s.nx:=o?;rw[this];exact⟨ι2,l,o,(e1.toK _).trans e2,h.nx⟩
theorem again_ok{a:Act}{nt:Y}{e s g :St}{l:World}{ι0:uT}{o:Y->Prop}(d:sk)(h:Inv w a s ι Im nt)
  (r: ∀β b,e.heap.get β=V b->β<e.nx) (i:yA l e.heap ι0 o w s.heap ι Im) (c:again d e.nx s=V g):
  ∃ι',Inv w a g ι' Im nt/\ZZ (e.nx-d.off) l e.heap ι0 o w g.heap ι' Im/\e.nx-d.off<=g.nx-d.off:=by
 unfold again at c;split at c;rename_i m;unfold KB at c;split at c<;>cases c;rename_i hn;obtain⟨ι1,j,e1⟩:=iB d.wv h;obtain⟨ι2,f,e2⟩:=pD d.xR j;exact⟨ι2,eL f d.NT,((i.trans e1).trans e2).toK _,Y.sub_le_sub_right hn _⟩;rename_i m;have q:d.off=d.own:=by simp[q1w,m]
 split at c;rename_i n;obtain⟨f,e2⟩:=Bf h r i _ c;refine⟨ι,f,e2.toK _, ?_⟩;unfold narrow at c;simp only at c;split at c<;>cases c;exact ke _;rename_i k n;split at c;rotate_left;cases c;rename_i s2 t;split at c<;>cases c;rename_i hn;obtain⟨ι1,j,e1⟩:=iB d.wv h;obtain⟨ι2,f,e2⟩:=pD d.xR j;obtain⟨ι3,p,e3⟩:=YL f d.NT _ t;rw[q,n];exact⟨ι3,p,(((i.trans e1).trans e2).toK _).trans e3,o?⟩
theorem Uo{a:Act}{nt:Y}{d s f :St}{i:World}{ι0:uT}{j:Y->Prop}(c:sk)(h:Inv w a s ι Im nt)
  (q: ∀β b,d.heap.get β=V b->β<d.nx) (g:yA i d.heap ι0 j w s.heap ι Im) (e:leave c d.nx s=V f):
  ∃ι',Inv w a f ι' Im nt/\ZZ (d.nx-c.off) i d.heap ι0 j w f.heap ι' Im:=by
 unfold leave at e;split at e;cases e;exact⟨ι,eL h c.out,g.toK _⟩;rename_i l;have p:c.off=c.own:=by simp[q1w,l]
 split at e;cases e;obtain⟨n,e2⟩:=Ro h q g c.out;exact⟨ι,n,e2.toK _⟩;rename_i k o;obtain⟨ι3,m,e3⟩:=YL h c.out _ e;rw[p,o];exact⟨ι3,m,(g.toK _).trans e3⟩
theorem Ww{ex a :Ex}{o:T St}{s:St}(h:left ex o=V (a,s)):o=V s/\a =ex:=by unfold left at h;split at h<;>cases h;exact⟨rfl,rfl⟩
end
section
variable [xY] {P:Program} {w:World} {H:qt} {ι:uT} {Im:Y->Prop}
theorem RA.ext{a :qt}(h: ∀γ,a.get γ=H.get γ){x:AV}{v:Value}(c:RA w H ι Im x v):RA w a ι Im x v:=
 QJ c λβ _ b d=>by rw[h];exact d
theorem zr.ext{E :qt}(h: ∀γ,E.get γ=H.get γ)(hi:zr w H ι Im):zr w E ι Im where
 TG:=hi.TG
 HS:=hi.HS
 d5:=λβ b r=>by rw[h]at r;have d:=hi.d5 β b r;cases b with|box c=>obtain⟨f,elem,q,o,n,m,l,g⟩:=d;exact⟨f,elem,q,o,n,m,l,λi x v a b=>(g i x v a b).ext h⟩|row s F es=>cases s<;>exact d|map es xf=>exact d|rq F es=>obtain⟨f,elem,q,o,n,m,l,g,y,u,t⟩:=d;exact⟨f,elem,q,o,n,m,l,g,y,u,λi e j x a b=>(t i e j x a b).imp λv k=>⟨k.1,k.2.ext h⟩⟩|we s ds es ZS=>(cases s with|true=>exact d|false=>obtain⟨f,elem,q,o,n,m,l,g,y,u,t,L⟩:=d;refine⟨f,elem,q,o,n,m,l,g,y,u,t,λi p k a b=>?_⟩;obtain⟨v,R,Q,B⟩:=L i p k a b;exact⟨v,R,Q,λγ' A D=>⟨(B γ' A D).1,(B γ' A D).2.ext h⟩⟩)|xA=>trivial
 inj:=λβ β' b b' z X W=>hi.inj β β' b b' z (by rw[<- h];exact X) (by rw[<- h];exact W)
 im:=hi.im
 Hn:=λβ b z r=>hi.Hn β b z (by rw[<- h];exact r)
theorem yA.ext{c:World}{e f :qt}{ι0:uT}{d:Y->Prop}(h: ∀γ,f.get γ=H.get γ)(a:yA c e ι0 d w H ι Im):yA c e ι0 d w f ι Im where
 comp:=λβ b k=>by obtain⟨l,i,g⟩:=a.comp β b k;exact⟨l,by rw[h];exact i,g⟩
 im:=a.im
 sR:=a.sR
 tC:=λβ x z j=>a.tC β x z (by rw[<- h];exact j)
 wV:=a.wV
 size:=a.size
 io:=a.io
structure At (G:GP) (O:jb) (all:Z K) (tm:J) (os:Z K) (cs:Z Rc) (i:Y) (s:St) (j:Y) (o:K) (c:Rc):Prop where
 env:c.E=cJ os cs i (λk=>decide (k<i+j)) s.env
 heap:c.H=yd cs i (λk=>decide (k<i+j)) s.heap
 guard:hJ all o c.E=V c.on
 on:c.on=U->(∃ wf,ry G O o.op c.E c.H c.nx=V (c.v,wf,c.iy)/\c.ws=lQ tm c.rd c.H wf)/\c.rd=cn o.op c.E c.H
 off:c.on=N->c.v= .xL []/\c.ws=[]/\c.iy=c.nx/\c.rd=[]
 nx:s.nx<=c.nx
 bd: ∀β b,c.H.get β=V b->β<c.nx
 iy:c.nx<=c.iy
 keys:(∀ x∈c.keys,x<c.iy)/\ ∀γ,c.nx<=γ->γ<c.iy->γ∈c.keys
theorem DU: ∀(ws:Z (Y×qD)){H:qt}{γ:Y}{b:qD},(zm ws H).get γ=V b->γ∈ws.map (·.1)\/H.get γ=V b
 |ws,H,γ,b,h=>by by_cases a:γ∈ws.map (·.1);exact .inl a;have c: ∀x∈ws,x.1≠γ:=λx d e=>a (by rw[<- e];exact B?.2 ⟨x,d,rfl⟩);rw[kX ws _ γ c]at h;exact .inr h
theorem YM{G:GP}{O:jb}{all:Z K}{tm:J}{o:K}{r:Z K}{c:Rc}{cs:Z Rc}{s j :St}(h:tw G O all tm (o::r) (c::cs) s j)(f: ∀β b,s.heap.get β=V b->β<s.nx):
  s.nx<=c.iy/\(∀ x∈c.keys,x<c.iy)/\(∀ γ,s.nx<=γ->γ<c.iy->γ∈c.keys)/\ ∀β b,(zm c.ws s.heap).get β=V b->β<c.iy:=by
 obtain⟨_,_,_,_,t,q,_⟩:=h;have key:s.nx<=c.iy/\(∀ x∈c.ws,x.1<c.iy)/\ ∀γ,s.nx<=γ->γ<c.iy->γ∈c.ws.map (·.1):=by cases i:c.on with|true=>obtain⟨⟨wf,p,n⟩,_⟩:=t i;obtain⟨g1,g2,g3⟩:=aop_keys p f;rw[n];refine⟨g1,λx e=>g2 x (A0 e),λγ a b=>?_⟩;rcases FY (tm:=tm) (rd:=c.rd) (H:=s.heap) (g3 γ a b)with h|⟨u,h⟩;exact h;have:=f γ u h;omega|false=>obtain⟨_,e2,e3,_⟩:=q i;rw[e2,e3];exact⟨ke _,z?,λγ a b=>o?⟩
 obtain⟨l,g,k⟩:=key;refine⟨l,λx e=>?_,k,λβ b m=>?_⟩;obtain⟨y,d,rfl⟩:=B?.1 e;exact g y d;rcases DU _ m with h|h;obtain⟨y,d,rfl⟩:=B?.1 h;exact g y d;have:=f β b h;omega
theorem Kk{G:GP}{O:jb}{all:Z K}{n:J}: ∀{os:Z K}{cs:Z Rc}{s p :St},tw G O all n os cs s p ->(∀ β b,s.heap.get β=V b->β<s.nx)-> ∀(i j:Y)(o:K)(c:Rc),os[j]? =V o->cs[j]? =V c->
  At G O all n os cs i s j o c
 |[],_,_,_,_,_,_,_,_,_,a,_=>by simp at a
 |_::_,[],_,_,h,_,_,_,_,_,_,_=>h.elim
 |o' ::os,c' ::cs,s,p,h,r,i,j,o,c,a,f=>by obtain⟨q,v,u,t⟩:=YM h r;obtain⟨m,l,d,A,z,y,x⟩:=h;cases j with|zero=>simp only[i?,wO]at a f;subst a f;refine⟨?_, ?_,by rw[m];exact A,by rw[m,l,d];exact z,by rw[d];exact y,by rw[d];exact ke _,by rw[l,d];exact r,by rw[d];exact q,v,by rw[d];exact u⟩;rw[Zc _ _ _ _ _ λk g=>by simpa using g,m];rw[rE _ _ _ _ λk g=>by simpa using g,l]|succ j=>(simp only[Q?]at a f;have:=Kk x t (i+1) j o c a f;have e:(λk=>decide (k<i+(j+1)))=λk=>decide (k<i+1+j):=by funext k;rw[show i+(j+1)=i+1+j from o?]);refine⟨?_, ?_,this.guard,this.on,this.off,c! q this.nx,this.bd,this.iy,this.keys⟩;rw[this.env,e];simp only[cJ];rw[if_pos v?];rw[this.heap,e];simp only[yd];rw[if_pos v?]
theorem Wh{G:GP}{O:jb}{all:Z K}{t:J}: ∀{os:Z K}{cs:Z Rc}{s d :St},tw G O all t os cs s d ->(∀ β b,s.heap.get β=V b->β<s.nx)-> ∀(i:Y),
  d.env=cJ os cs i (λ_=>U) s.env/\d.heap=yd cs i (λ_=>U) s.heap/\s.nx<=d.nx/\(∀ β b,d.heap.get β=V b->β<d.nx)/\
   (∀(j:Y)(c:Rc),cs[j]? =V c->s.nx<=c.nx/\c.iy<=d.nx)/\ ∀(a b:Y)(g e:Rc),a<b->cs[a]? =V g->cs[b]? =V e->g.iy<=e.nx
 |[],[],s,d,h,m,i=>by have E :d =s:=h;subst E;exact⟨rfl,rfl,ke _,m,z?,z?⟩
 |[],_::_,_,_,h,_,_=>h.elim
 |_::_,[],_,_,h,_,_=>h.elim
 |o::os,c::cs,s,d,h,m,i=>by obtain⟨r,k2,k3,A⟩:=YM h m;obtain⟨h1,h2,D,h4,h5,h6,B⟩:=h;obtain⟨z,y,q,x,p,v⟩:=Wh B A (i+1);refine⟨?_, ?_,c! r q,x,λj F k=>?_,λa b g e fZ f l=>?_⟩;rw[z];simp[cJ];rw[y];simp[yd];(cases j with|zero=>simp only[i?,wO]at k;subst k;exact⟨by rw[D];exact ke _,q⟩|succ j=>simp only[Q?]at k;obtain⟨n,u⟩:=p j F k;simp only at n;exact⟨c! r n,u⟩);cases b with|zero=>omega|succ b=>simp only[Q?]at l;cases a with|zero=>simp only[i?,wO]at f;subst f;exact(p b e l).1|succ a=>simp only[Q?]at f;exact v a b g e o? f l
def It(nt:Y)(os:Z K)(cs:Z Rc)(s:St)(b:World)(ι0:uT)(c:Y->Prop)(D:Y->J)(a:Act)(w:World):Prop:=
 ∃ι Im,zr w (yd cs 0 D s.heap) ι Im/\(∀ t,RA w (yd cs 0 D s.heap) ι Im ((cJ os cs 0 D s.env).get t) (a.tmps.getD t undef))/\nt<=a.tmps.size/\a.defers=[]/\
  yA b s.heap ι0 c w (yd cs 0 D s.heap) ι Im
def fe(D:Y->J)(j:Y):Y->J:=λk=>decide (k=j) || D k
theorem looks_ev{ops:Array K}{o:K}{E a :uS}(h: ∀t∈o.looksAt ops,a.get t=E.get t):(∀ x∈o.op.operands,ev a x=ev E x)/\hJ ops.toList o a =hJ ops.toList o E:=by constructor;(intro x b;cases x with|tmp t=>refine h t ?_;unfold K.looksAt;refine Z.mem_append_left _ (Z.mem_filterMap.2 ⟨.tmp t,by simpa using b,rfl⟩)|_=>rfl);unfold hJ;cases e:o.guard with|none=>rfl|some g=>obtain⟨j,want⟩:=g;simp only;cases c:ops.toList[j]? with|none=>rfl|some oj=>simp only;cases f:oj.dst with|none=>rfl|some d=>(simp only;rw[h d];unfold K.looksAt;refine Z.mem_append_right _ ?_;rw[e];have:ops[j]? =V oj:=by rw[<- N?];exact c);simp[this,f]
theorem step_ok{G:GP}{O:jb}(hG:uZ P G)(hO:SoundCall P O){nt:Y}{ops:Array K}(hd:Gw nt ops.toList)(hdr:Wi ops.toList=U){cs:Z Rc}{s s' :St}{tm:J}
  (HT:tw G O ops.toList tm ops.toList cs s s') (Oy: ∀β b,s.heap.get β=V b->β<s.nx) (W0:rC (ym [] ops.toList) (B8 0 cs [])=U)
  {w0:World} {ι0:uT} {J3:Y->Prop} {D:Y->J} (hD:C5 ops.toList D) {j:Y} {o:K} (z:ops.toList[j]? =V o) (hj:D j=N)
  (HY: ∀e∈o.after,Region.binds .any e=U->D e.on=U) {a:Act} {w:World} (h:It nt ops.toList cs s w0 ι0 J3 D a w) (Q:Exit->Act->World->Prop):
  wpOp P ops Q j (It nt ops.toList cs s w0 ι0 J3 (fe D j)) a w:=by
 simp only[Wi,xn]at hdr;obtain⟨F,D1⟩:=hdr;have hlen:=HT.len;have TN:j<cs.length:=by rw[hlen];exact(qK z).1
 obtain⟨c,R⟩: ∃c,cs[j]? =V c:=⟨_,yc TN⟩;have Ox:=Kk HT Oy 0 j o c z R;obtain⟨_,_,_,_,hnxs,hnxp⟩:=Wh HT Oy 0;have B:=(B9 cs 0 [] W0).2;have ahead: ∀i,ordered (ym [] ops.toList) i j=U->D i=U:=X9 F hD j o z HY;have behind: ∀k,k<ops.toList.length->ordered (ym [] ops.toList) j k=U->D k=N:=λk d Hk=>by cases f:D k with|false=>rfl|true=>have:=X9 F hD k ops.toList[k] (yc d) (λe he hb=>hD k _ (yc d) f e he hb) j Hk;rw[hj]at this;cases this
 have y:ops.toList.toArray=ops:=z?;have X: ∀t∈o.looksAt ops,(cJ ops.toList cs 0 D s.env).get t=c.E.get t:=by intro t ht;rw[Ox.env];refine av _ _ _ _ _ (λk ok d p=>?_) rfl;simp only[x!];have s9:=(qK d).1;rcases n_ k j with W|rfl|SG;rw[decide_eq_true W];rcases apart_spec D1 W d z with h1|h1;exact ahead k h1;rw[y]at h1;exact absurd ht ((K.apart_spec h1).1 t p);simpa using hj;rw[decide_eq_false o?];rcases apart_spec D1 SG z d with h1|h1;exact behind k s9 h1;rw[y]at h1;exact absurd ht ((K.apart_spec h1).2.2 t p)
 obtain⟨hevs,A⟩:=looks_ev X;obtain⟨ι,Im,hi,VK,rj,TK,L⟩:=h;have D4: ∀(k:Y)(ck:Rc),cs[k]? =V ck->D k=U->j<k->c.on=U->ck.on=U->Apart c ck:=λk ck d f Hk h1 h2=>by rcases(B k ck d h2).2 j c Hk R h1 with h3|h3;simp only[x!]at h3;have:=behind k (by rw[<- hlen];exact(qK d).1) h3;rw[f]at this;cases this;exact h3
 have n: ∀(k:Y)(ck:Rc),cs[k]? =V ck->D k=N->k<j->c.on=U->ck.on=U->Apart ck c:=λk ck d f Hk h1 h2=>by rcases(B j c R h1).2 k ck Hk d h2 with h3|h3;simp only[x!]at h3;rw[ahead k h3]at f;cases f;exact h3
 have Kw: ∀(k:Y)(ck:Rc),cs[k]? =V ck->ck.on=N->ck.keys=[]:=λk ck d ZN=>by (have s9:k<ops.toList.length:=by rw[<- hlen];exact(qK d).1);have:=(Kk HT Oy 0 k _ ck (yc s9) d).off ZN;unfold Rc.keys;rw[this.2.1];rfl
 have q : ∀t,(cJ ops.toList cs 0 (fe D j) s.env).get t=(iC o.dst c.v (cJ ops.toList cs 0 D s.env)).get t:=by intro t;rw[iD];by_cases r:o.dst=V t;rw[if_pos r];refine YU _ _ _ _ j o c z R r (by simp[fe]) λk ok d ed p=>?_;simp only[x!,fe];rw[decide_eq_false o?,q1o];rcases apart_spec D1 d z ed with h1|h1;exact behind k (qK ed).1 h1;rw[y]at h1;exact absurd p ((K.apart_spec h1).2.1 t r);(rw[if_neg r];refine av _ _ _ _ _ (λk ok d p=>?_) rfl;simp only[x!,fe];have:k≠j:=λe=>by subst e;rw[z]at d;cases d;exact r p);simp[this]
 have m : ∀γ,(yd cs 0 (fe D j) s.heap).get γ=(zm c.ws (yd cs 0 D s.heap)).get γ:=by intro γ;by_cases d:γ∈c.keys;(refine Vd cs 0 s.heap j c R d (by simp[fe]) (λk ck Hk l g=>?_) _;simp only[x!,fe];rw[decide_eq_false o?,q1o];cases f:D k with|false=>rfl|true=>(exfalso;have OJ:c.on=U:=by cases h1:c.on with|true=>rfl|false=>rw[Kw j c R h1]at d;simp at d);(have OK:ck.on=U:=by cases h1:ck.on with|true=>rfl|false=>rw[Kw k ck l h1]at g;simp at g);exact(D4 k ck l f Hk OJ OK).2.1 γ d g);(have kN: ∀x∈c.ws,x.1≠γ:=λx hx e=>d (by rw[<- e];exact B?.2 ⟨x,hx,rfl⟩);rw[kX _ _ _ kN];refine s8 _ _ _ _ (λk ck l g=>?_) rfl;simp only[x!,fe];have:k≠j:=λe=>by subst e;rw[R]at l;cases l;exact d g);simp[this]
 have ho' :ops[j]? =V o:=by rw[<- N?];exact z
 have hdo: ∀t,o.dst=V t->t<nt:=hd o (zj z);unfold wpOp;rw[ho'];simp only;have hgd:hJ ops.toList o (cJ ops.toList cs 0 D s.env)=V c.on:=by rw[A];exact Ox.guard
 rw[U8 VK hgd];cases OJ:c.on with|false=>(rw[if_neg z?];obtain⟨e1,e2,e3,e4⟩:=Ox.off OJ;have hh: ∀γ,(yd cs 0 (fe D j) s.heap).get γ=(yd cs 0 D s.heap).get γ:=λγ=>by rw[m γ,e2];rfl);refine⟨ι,Im,hi.ext hh,λt=>?_,by rw[q27];exact rj,by rw[X'];exact TK,L.ext hh⟩;rw[q t,e1];exact(Y5 VK rj hdo RI t).ext hh|true=>(rw[if_pos rfl];refine .inl ?_;obtain⟨⟨wf,e1,e1'⟩,e2⟩:=Ox.on OJ;have hag:ju (cn o.op c.E c.H) c.H (yd cs 0 D s.heap):=by (intro γ hγ;rw[Ox.heap];refine s8 _ _ _ _ (λk ck l g=>?_) rfl;simp only[x!];have OK:ck.on=U:=by cases h1:ck.on with|true=>rfl|false=>rw[Kw k ck l h1]at g;simp at g);rcases n_ k j with W|rfl|SG;(rw[decide_eq_true W];cases f:D k with|true=>rfl|false=>exact absurd (e2 ▸ hγ) ((n k ck l f W OJ OK).1 γ g));simpa using hj;rw[decide_eq_false o?];cases f:D k with|false=>rfl|true=>exact absurd g ((D4 k ck l f SG OJ OK).2.2 γ (e2 ▸ hγ)));(have Kx:ry G O o.op (cJ ops.toList cs 0 D s.env) (yd cs 0 D s.heap) c.nx=V (c.v,wf,c.iy):=by rw[IH hevs hag];exact e1);(have D3: ∀γ,(yd cs 0 (fe D j) s.heap).get γ=(zm wf (yd cs 0 D s.heap)).get γ:=λγ=>by rw[m γ,e1'];exact FZ (by rw[e2];exact hag) γ);(have hX:Bd (λγ=>c.iy<=γ) (yd cs 0 D s.heap) c.nx:=by intro β b hb;by_cases h1:β<c.nx;exact .inl h1;by_cases h2:c.iy<=β;exact .inr h2;(exfalso;have e8:β∈c.keys:=Ox.keys.2 β o? o?;have GW:(yd cs 0 D s.heap).get β=s.heap.get β:=by rw[s8 (D' :=λ_=>N) cs 0 s.heap s.heap (λk ck l g=>?_) rfl,rE _ _ _ _ λ_ _=>rfl];simp only[x!];cases f:D k with|false=>rfl|true=>(exfalso;have s9:k<ops.toList.length:=by rw[<- hlen];exact(qK l).1);(have hatk:=Kk HT Oy 0 k _ ck (yc s9) l;have OK:ck.on=U:=by cases h1:ck.on with|true=>rfl|false=>rw[Kw k ck l h1]at g;simp at g);rcases n_ k j with W|rfl|SG;have h3:=hatk.keys.1 β g;have h4:=hnxp k j ck c W l R;omega;rw[hj]at f;cases f;exact(D4 k ck l f SG OJ OK).2.1 β e8 g);rw[GW]at hb;have h3:=Oy β b hb;have h4:=Ox.nx;omega);refine opX_ok hG hO hi VK hX o Kx (λγ h=>h) _ Q λu w' ι' wc q1 q2 q3 q4=>?_;refine⟨ι',wc,q1.ext D3,λt=>?_,by rw[q27];exact rj,by rw[X'];exact TK,(L.trans q2).ext D3⟩;rw[q t];exact(Y5 (λt=>(VK t).mono hi q2) rj hdo q3 t).ext D3
theorem V5{p p' :Y->J}{j:Y}: ∀(l:Z Y),(∀ x,p' x=U->p x=U)->j∈l->p j=U->p' j=N->(l.filter p').length<(l.filter p).length
 |[],_,hj,_,_=>by simp at hj
 |x::r,b,hj,e,d=>by (have c: ∀(l:Z Y),(l.filter p').length<=(l.filter p).length:=by intro l;induction l with|nil=>simp|cons y r a=>simp only[D!];cases h:p' y with|true=>rw[b y h];simp;exact a|false=>cases p y<;>simp<;>omega);simp only[D!];rcases K?.1 hj with rfl|hj;rw[e,d];have:=c r;simp;omega;have a:=V5 r b hj e d;cases h:p' x with|true=>rw[b x h];simp;exact a|false=>cases p x<;>simp<;>omega
theorem any_ok{G:GP}{O:jb}(hG:uZ P G)(hO:SoundCall P O){nt:Y}{ops:Array K}(hd:Gw nt ops.toList)(q:Wi ops.toList=U){cs:Z Rc}{s s' :St}{tm:J}
  (HT:tw G O ops.toList tm ops.toList cs s s') (Oy: ∀β b,s.heap.get β=V b->β<s.nx) (W0:rC (ym [] ops.toList) (B8 0 cs [])=U)
  {w0:World} {ι0:uT} {J3:Y->Prop} (Q:Exit->Act->World->Prop) (hq: ∀a w,It nt ops.toList cs s w0 ι0 J3 (λ_=>U) a w->Q .normal a w):
  ∀(fuel:Y)(gU:Array J)(a:Act)(w:World),gU.size=ops.size->C5 ops.toList (λk=>gU.getD k N)->
   ((L? ops.size).filter λk=> !gU.getD k N).length<=fuel->It nt ops.toList cs s w0 ι0 J3 (λk=>gU.getD k N) a w->wpAny P .any ops Q fuel gU a w:=by
 have c: ∀(D:Y->J)(a:Act)(w:World),(∀ k,k<ops.size->D k=U)->It nt ops.toList cs s w0 ι0 J3 D a w->It nt ops.toList cs s w0 ι0 J3 (λ_=>U) a w:=by
  intro D a w A ⟨ι,Im,u,m,h3,h4,h5⟩;have X: ∀γ,(yd cs 0 (λ_=>U) s.heap).get γ=(yd cs 0 D s.heap).get γ:=λγ=>
   s8 _ _ _ _ (λk ck TH _=>by
    have:k<ops.size:=by have:=HT.len;have:=(qK TH).1;simp at *; omega
    simp[A k this]) rfl
  refine⟨ι,Im,u.ext X,λt=>?_,h3,h4,h5.ext X⟩;rw[av (D' :=D) _ _ _ _ s.env (λk ok ed _=>by
    have:k<ops.size:=by have:=(qK ed).1;simpa using this
    simp[A k this]) rfl]
  exact(m t).ext X
 intro fuel;induction fuel with|zero=>((intro gU a w v d hf h;have l: ∀k,k<ops.size->gU.getD k N=U:=by intro k f;have h0:((L? ops.size).filter λk=> !gU.getD k N)=[]:=Z.length_eq_zero_iff.1 o?;have:=Z.filter_eq_nil_iff.1 h0 k (by simpa using f);simpa using this);refine⟨?_,hq a w (c _ a w l h)⟩;cases W:Region.ready .any ops gU with|nil=>rfl|cons i r=>(exfalso;have hi:i∈Region.ready .any ops gU:=by rw[W];simp);obtain⟨u,o,E,_⟩:=mem_ready.1 hi;have g:i<ops.size:=(B!.1 E).1;have m:=l i g;simp[v,g]at u m;rw[u]at m;cases m)|succ fuel ih=>intro gU a w v d hf h;refine⟨λW=>?_,λi hi=>?_⟩;(refine hq a w (c _ a w ?_ h);intro k;induction k using s? with|_ k Pa=>intro f;cases A:gU.getD k N with|true=>rfl|false=>(exfalso;have s9:k<ops.toList.length:=by simpa using f);(have fq:k∈Region.ready .any ops gU:=by refine mem_ready.2 ⟨?_,ops[k],by simp[f],λe F L=>?_⟩;simp[v,f]at A |-;exact A;have g:=TE (by simp only[Wi,xn]at q;exact q.1) (yc s9) (by simpa using F) L;exact Pa e.on g o?);rw[W]at fq;simp at fq);(obtain⟨u,o,E,m⟩:=mem_ready.1 hi;have g:i<ops.size:=(B!.1 E).1;have y :ops.toList[i]? =V o:=by rw[N?];exact E);(have z:gU.getD i N=N:=by simp[v,g]at u |-;exact u);(have B:(λk=>(gU.setIfInBounds i U).getD k N)=fe (λk=>gU.getD k N) i:=by funext k;simp only[fe];by_cases f:k=i;subst f;simp[v,g];simp[f,Array.getElem?_setIfInBounds_ne (a_ f)]);refine wpOp_mono (λa' w' h' =>?_) (step_ok hG hO hd q HT Oy W0 d y z m h Q);refine ih (gU.setIfInBounds i U) a' w' (by simpa using v) ?_ ?_ (by rw[B];exact h');rw[B];intro j oj n hDj e F L;simp only[fe,w!,decide_eq_true_eq]at hDj |-;rcases hDj with rfl|hDj;rw[y]at n;cases n;exact .inr (m e F L);exact .inr (d j oj n hDj e F L);have:=V5 (p:=λk=> !gU.getD k N) (p' :=λk=> !(gU.setIfInBounds i U).getD k N) (j:=i) (L? ops.size) (λx R=>?_) (by simpa using g) (by simpa using z) ?_;omega;have KA:(gU.setIfInBounds i U).getD x N=fe (λk=>gU.getD k N) i x:=congrFun B x;rw[KA]at R;simp only[fe,b_,J.or_eq_false_iff]at R;simp only[R.2,J.not_false];have KA:(gU.setIfInBounds i U).getD i N=fe (λk=>gU.getD k N) i i:=congrFun B i;rw[KA];simp[fe]
theorem Fk{G:GP}{O:jb}(B:P.follows .mixedOrders=U)(L:uZ P G)(F:SoundCall P O){nt:Y}(id:Y)(ops:Array K)(E:Gw nt ops.toList)(e:Wi ops.toList=U)
  {a:Act} {s g :St} (h:Inv w a s ι Im nt) {q:J} (z:ig G O ops.toList q 0 ops.toList s []=V g) (Q:Exit->Act->World->Prop)
  (A: ∀c b,oM w s.heap ι Im nt g c b ->Q .normal c b):(Code.region id ops U).wp P Q a w:=by
 obtain⟨cs,m,W⟩:=X5 ops.toList z;obtain⟨v,u,q3,r,_,_⟩:=Wh m h.nx 0;refine wp_region_any B ?_;have f:({ w with drawn:=w.drawn+1 }:World).heap=w.heap:=rfl;have n:(λk=>(s_ ops.size N).getD k N)=λ_=>N:=by funext k;simp[Array.getElem?_replicate];split<;>rfl
 refine any_ok L F E e m h.nx W (w0:=w) (ι0:=ι) (J3:=Im) Q (λc b R =>?_) ops.size _ a _ z? ?_ ?_ ?_;obtain⟨ι',p,l,d,y,x,i⟩:=R;rw[<- u]at l d i;rw[<- v]at d;exact A c b ⟨ι',p,⟨l,d,r,y,x⟩,i⟩;rw[n];intro j o _ D;cases D;have:=Z.length_filter_le (λk=> !(s_ ops.size N).getD k N) (L? ops.size);simpa using this;rw[n];refine⟨ι,Im, ?_,λt=>?_,h.size,h.defers, ?_⟩;rw[rE _ _ _ _ λ_ _=>rfl];exact h.heap.px f ⟨rfl,rfl⟩;rw[rE _ _ _ _ λ_ _=>rfl,Zc _ _ _ _ _ λ_ _=>rfl];exact(h.env t).px f ⟨rfl,rfl⟩ h.heap;rw[rE _ _ _ _ λ_ _=>rfl];exact yA.px f ⟨rfl,rfl⟩
end
def hK:Code->Z Y
 | .seq a b=>hK a++hK b
 | .block id (.loop c)=>id::hK c
 | .block _ c=>hK c
 | .cond _ a b=>hK a++hK b
 | .loop c=>hK c
 |_=>[]
def ZP(id:Y)(b:Code):Code->Prop
 | .seq x y=>ZP id b x\/ZP id b y
 | .block i (.loop c)=>(i=id/\c=b)\/ZP id b c
 | .block _ c=>ZP id b c
 | .cond _ x y=>ZP id b x\/ZP id b y
 | .loop c=>ZP id b c
 |_=>False
theorem M6{id:Y}{b:Code}: ∀{c:Code},ZP id b c->id∈hK c:=by
 intro c;fun_induction hK c with
 |case1 x y e d=>
  intro h;simp only[ZP]at h;simp only[t?];exact h.imp e d
 |case2 i c a=>
  intro h;simp only[ZP]at h;rcases h with ⟨rfl,_⟩|h
  ·simp
  simp[a h]
 |case3 i c f a=>
  intro h;refine a ?_;cases c<;>first|exact absurd rfl (f _)|exact h
 |case4 o x y e d=>
  intro h;simp only[ZP]at h;simp only[t?];exact h.imp e d
 |case5 c a=>
  intro h;exact a (by simpa only[ZP]using h)
 |case6 c h1 h2 h3 h4 h5=>
  intro h;cases c<;>simp_all [ZP]
theorem Jn{id:Y}: ∀{c:Code},id∉hK c->xj c id=C:=by
 intro c;fun_induction hK c with
 |case1 x y d b=>
  intro h;simp only[t?,not_or]at h;simp[xj,d h.1,b h.2]
 |case2 i c a=>
  intro h;simp only[K?,not_or]at h;simp[xj,a h.2,a_ h.1]
 |case3 i c e a=>
  intro h;have:=a h;cases c<;>first|exact absurd rfl (e _)|exact this
 |case4 o x y d b=>
  intro h;simp only[t?,not_or]at h;simp[xj,d h.1,b h.2]
 |case5 c a=>
  intro h;simpa only[xj]using a h
 |case6 c h1 h2 h3 h4 h5=>
  intro h;cases c<;>simp_all [xj]
theorem Nm{id:Y}{b:Code}: ∀{c:Code},(hK c).Nodup->ZP id b c->xj c id=V b:=by
 intro c;fun_induction hK c with
 |case1 x y j g=>
  intro hn h;rw[O?]at hn;simp only[ZP]at h;simp only[xj];rcases h with h|h
  ·rw[j hn.1 h]
  have d:id∉hK x:=λf=>hn.2.2 id f id (M6 h) rfl;rw[Jn d];exact g hn.2.1 h
 |case2 i c a=>
  intro hn h;rw[Z.nodup_cons]at hn;simp only[ZP]at h;simp only[xj];rcases h with ⟨rfl,rfl⟩|h
  ·simp
  have:i≠id:=λe=>hn.1 (e ▸ M6 h);rw[if_neg this];exact a hn.2 h
 |case3 i c k a=>
  intro hn h;cases c<;>first|exact absurd rfl (k _)|exact a hn h
 |case4 o x y j g=>
  intro hn h;rw[O?]at hn;simp only[ZP]at h;simp only[xj];rcases h with h|h
  ·rw[j hn.1 h]
  have d:id∉hK x:=λf=>hn.2.2 id f id (M6 h) rfl;rw[Jn d];exact g hn.2.1 h
 |case5 c a=>
  intro hn h;simpa only[xj]using a hn (by simpa only[ZP]using h)
 |case6 c d h2 h3 h4 h5=>
  intro hn h;cases c<;>simp_all [ZP]
def nW(nt:Y):Code->J
 | .region _ ops d=>opsOK nt ops.toList&&(!d || Wi ops.toList)
 | .seq a b=>nW nt a&&nW nt b
 | .cond _ a b=>nW nt a&&nW nt b
 | .block _ c=>nW nt c
 | .loop c=>nW nt c
 |_=>U
section
variable [xY] {P:Program} {w:World} {H:qt} {ι:uT} {Im:Y->Prop}
theorem As{G:GP}{O:jb}(hm:P.follows .mixedOrders=U)(hG:uZ P G)(W:Sound P G O)(f:I)(v:FI)(Wm:G.fn f=V v)(R:(hK v.body).Nodup):
  ∀(c:Code),nW v.nt c=U->(∀ id b,ZP id b c->ZP id b v.body)-> ∀{w:World}{ι:uT}{Im:Y->Prop}{a:Act}{s k :St}{ex:Ex},Inv w a s ι Im v.nt->
   exec G O f c s=V (ex,k)->c.wp P (λe z w' =>e=ex.Ts/\oM w s.heap ι Im v.nt k z w') a w:=by
 intro c;induction c with
  |skip=>intro _ _ w ι Im a s k ex h g;simp only[exec,wO,Prod.mk.injEq]at g;obtain⟨rfl,rfl⟩:=g;exact wp_skip ⟨rfl,ι,Im,h,Y! _ _ _ _⟩
  |region id ops d=>intro l _ w ι Im a s k ex h g;simp only[nW,xn]at l;cases d with|false=>simp only[exec]at g;split at g<;>cases g;rename_i hs;obtain⟨ι1,E,A,e1⟩:=Y2 (G.cmd f (2*id)) h;exact q08 hG W.toSoundCall id ops (UB l.1) A hs _ λz w' m=>⟨rfl,(m.from e1).post _⟩|true=>simp only[exec]at g;split at g<;>cases g;rename_i hs;obtain⟨ι0,J3,h0,e0⟩:=Y2 (G.cmd f (2*id)) h;obtain⟨E,A,e1⟩:=cy (ei (sG (G.cmd f (2*id)) s).env (sG (G.cmd f (2*id)) s).heap (G.pre f id)) h0;exact Fk hm hG W.toSoundCall id ops (UB l.1) (by simpa using l.2) A hs _ λz w' m=>⟨rfl,(m.from (e0.trans e1)).post _⟩
  |seq x y D X=>intro l u w ι Im a s k ex h g;simp only[nW,xn]at l;simp only[exec]at g;refine wp_seq ?_;split at g;rename_i B r;refine wp_mono (D l.1 (λid b t=>u id b (by simp only[ZP];exact .inl t)) h r) λe a1 w1⟨j,ι1,E,A,e1⟩=>?_;subst j;refine wp_mono (X l.2 (λid b t=>u id b (by simp only[ZP];exact .inr t)) A g) λe a2 w2⟨j,m⟩=>⟨j,m.from e1⟩;rename_i B r;cases g;refine wp_mono (D l.1 (λid b t=>u id b (by simp only[ZP];exact .inl t)) h r) λe a1 w1⟨j,m⟩=>?_;subst j;exact⟨rfl,m⟩;rename_i i B r;cases g;refine wp_mono (D l.1 (λid b t=>u id b (by simp only[ZP];exact .inl t)) h r) λe a1 w1⟨j,m⟩=>?_;subst j;exact⟨rfl,m⟩;cases g
  |cond o x y D X=>intro l u w ι Im a s k ex h g;simp only[nW,xn]at l;simp only[exec]at g;split at g;rotate_left;cases g;rename_i b hb;have hv:=Jm h.env o;rw[hb]at hv;have hp:=hv.nZ;generalize Q:a.eval o=vo at hp;cases hp;refine wp_cond Q ?_;cases b with|true=>exact D l.1 (λid b t=>u id b (by simp only[ZP];exact .inl t)) h g|false=>exact X l.2 (λid b t=>u id b (by simp only[ZP];exact .inr t)) h g
  |block id c F=>
   intro l u w ι Im a s k ex h g;simp only[nW]at l;refine wp_block ?_;by_cases hl: ∃b,c= .loop b;{obtain⟨b,rfl⟩:=hl;simp only[exec]at g;split at g;rotate_left;cases g;(rename_i B r;obtain⟨ι1,E,A,e1,jv⟩:=Oa (G.spec f id) h r;have Kv:=Nm R (u id b (by simp[ZP]));obtain⟨kN,n,L⟩:=W.loop f id _ ex k g v b Wm Kv;refine wp_mono (wp_loop_rounds n (L w ι1 E a A)) λe z w'⟨j,m⟩=>?_;have q :oM w s.heap ι Im v.nt k z w' :=by obtain⟨ι2,P0,k1,k2⟩:=m.from e1;exact⟨ι2,P0,k1,k2.full jv⟩);cases ex with|normal=>simp only at j;subst j;simp only[Exit.inBlock,if_true];exact⟨rfl,q⟩|ret=>simp only at j;subst j;exact⟨rfl,q⟩|exit i=>simp only at j;subst j;simp only[Exit.inBlock,kN i rfl,if_false];exact⟨rfl,q⟩}
   have hex:exec G O f (.block id c) s=match exec G O f c s with
    |some (.exit i,k)=>if i=id then V (.normal,k)else V (.exit i,k)
    |some (.normal,k)=>V (.normal,k)
    |some (.ret,k)=>V (.ret,k)
    |none=>C:=by
    cases c<;>first|rfl|exact absurd ⟨_,rfl⟩ hl
   rw[hex]at g;have p : ∀id b,ZP id b c->ZP id b v.body:=λi b t=>u i b (by
    cases c<;>first|exact absurd ⟨_,rfl⟩ hl|(simp only[ZP];exact t))
   split at g;rename_i i B r;refine wp_mono (F l p h r) λe z w'⟨j,m⟩=>?_;subst j;by_cases hi:i=id;rw[if_pos hi]at g;cases g;simp only[Ex.Ts,Exit.inBlock,if_pos hi];exact⟨trivial,m⟩;rw[if_neg hi]at g;cases g;simp only[Ex.Ts,Exit.inBlock,if_neg hi];exact⟨trivial,m⟩;rename_i B r;cases g;refine wp_mono (F l p h r) λe z w'⟨j,m⟩=>?_;subst j;exact⟨rfl,m⟩;rename_i B r;cases g;refine wp_mono (F l p h r) λe z w'⟨j,m⟩=>?_;subst j;exact⟨rfl,m⟩;cases g
  |exit id=>intro _ _ w ι Im a s k ex h g;simp only[exec,wO,Prod.mk.injEq]at g;obtain⟨rfl,rfl⟩:=g;exact wp_exit ⟨rfl,ι,Im,h,Y! _ _ _ _⟩
  |ret=>intro _ _ w ι Im a s k ex h g;simp only[exec,wO,Prod.mk.injEq]at g;obtain⟨rfl,rfl⟩:=g;exact wp_ret ⟨rfl,ι,Im,h,Y! _ _ _ _⟩
  |_=>intro _ _ w ι Im a s k ex h g;simp[exec]at g
end
theorem Xf{i id:Y}{c:Code}(h: ∀b,c≠ .loop b):xj (.block i c) id=xj c id:=by cases c<;>first|rfl|exact absurd rfl (h _)
theorem VF{nt:Y}{id:Y}{b:Code}: ∀{c:Code},nW nt c=U->xj c id=V b->nW nt b=U:=by intro c;induction c with|seq x y j g=>intro h a;simp only[nW,xn]at h;simp only[xj]at a;split at a;rename_i k f;cases a;exact j h.1 f;exact g h.2 a|block i c d=>intro h a;by_cases hl: ∃x,c= .loop x;obtain⟨x,rfl⟩:=hl;simp only[nW]at h d;simp only[xj]at a d;split at a;cases a;exact h;exact d h a;rw[Xf λx e=>hl ⟨x,e⟩]at a;exact d (by simpa only[nW]using h) a|cond o x y j g=>intro h a;simp only[nW,xn]at h;simp only[xj]at a;split at a;rename_i k f;cases a;exact j h.1 f;exact g h.2 a|loop c d=>intro h a;simp only[nW]at h;simp only[xj]at a;exact d h a|_=>intro h a;simp[xj]at a
theorem Nn{id:Y}{b:Code}: ∀{c:Code},xj c id=V b-> ∀i x,ZP i x b->ZP i x c:=by intro c;induction c with|seq x y k h=>intro a i z d;simp only[xj]at a;simp only[ZP];split at a;rename_i l g;cases a;exact .inl (k g i z d);exact .inr (h a i z d)|block j c f=>(intro a i z d;by_cases hl: ∃x,c= .loop x;obtain⟨x,rfl⟩:=hl;simp only[xj]at a f;simp only[ZP]at f |-;split at a;cases a;exact .inr d;exact .inr (f a i z d);rw[Xf λx e=>hl ⟨x,e⟩]at a;have:=f a i z d;cases c<;>first|exact absurd ⟨_,rfl⟩ hl|exact this)|cond o x y k h=>intro a i z d;simp only[xj]at a;simp only[ZP];split at a;rename_i l g;cases a;exact .inl (k g i z d);exact .inr (h a i z d)|loop c f=>intro a i z d;simp only[xj]at a;simp only[ZP];exact f a i z d|_=>intro a;simp[xj]at a
structure Ir (P:Program) (G:GP):Prop where
 fn: ∀f fi,G.fn f=V fi-> ∃fn,P.funcs[f]? =V fn/\(fn.name== "runtime.NumGoroutine")=N/\fn.body=V fi.body/\fn.ntmps=fi.nt/\fn.results.toList=fi.results/\
  nW fi.nt fi.body=U/\(hK fi.body).Nodup
section
variable [xY] {P:Program} {w:World} {H:qt} {ι:uT} {Im:Y->Prop}
theorem loop_ok{G:GP}{O:jb}(X:P.follows .mixedOrders=U)(hG:uZ P G)(hF:Ir P G)(B:Sound P G O){f:I}{id:Y}{s s' :St}{ex:Ex}
  (b:rK G O f id s=V (ex,s')):LoopOK P G f id s ex s' :=by
 intro o c u t;obtain⟨fn,_,_,_,_,_,ed,y⟩:=hF.fn f o u;have x: ∀{w:World}{ι:uT}{Im:Y->Prop}{a:Act}{s s' :St}{ex:Ex},Inv w a s ι Im o.nt->exec G O f c s=V (ex,s')->
   c.wp P (λe p m =>e=ex.Ts/\oM w s.heap ι Im o.nt s' p m) a w:=
  λh b=>As X hG B f o u y c (VF ed t) (Nn t) h b
 unfold rK at b;rw[u]at b;simp only[t]at b;split at b;{rename_i r l;split at b;rotate_left;cases b;(rename_i D D9;obtain⟨L,n,hn⟩:=B.loop f id D ex s' b o c u t;refine⟨L,n+1,λw ι Im a h=>?_⟩;rw[rounds_succ];refine wp_mono (x h l) λe p m⟨d,ι1,z,g,e1⟩=>?_;subst d;obtain⟨P0,g,e2⟩:=cy (ei r.env r.heap (G.spec f id).freeze) g;obtain⟨ι2,k,e2,R⟩:=again_ok (G.spec f id) g h.nx (e1.trans e2) D9;have AJ: ∀(n:Y){Q v :Exit->Act->World->Prop}{a:Act}{w:World},(∀ e a w,Q e a w->v e a w)->Code.rounds P c Q n a w->Code.rounds P c v n a w:=by intro n;induction n with|zero=>intro Q v a w _ h;exact h|succ n W=>intro Q v a w A h;rw[rounds_succ]at h |-;refine wp_mono h λe a w d=>?_;cases e<;>first|exact W A d|exact A _ _ _ d);exact AJ n (λe a w ⟨F,E⟩=>⟨F,(E.NQ R).from e2⟩) (hn _ _ _ _ k)};rename_i i r l;by_cases hi:i=id;rw[if_pos hi]at b;obtain⟨q,rfl⟩:=Ww b;refine⟨λi h=>(by cases h),1,λw ι Im a h=>?_⟩;rw[rounds_succ];refine wp_mono (x h l) λe p m⟨d,ι1,z,g,e1⟩=>?_;subst d;obtain⟨ι2,k,e2⟩:=Uo (G.spec f id) g h.nx e1 q;exact⟨by rw[<- hi];rfl,_,_,k,e2⟩;rw[if_neg hi]at b;obtain⟨q,rfl⟩:=Ww b;refine⟨λj h=>(by cases h;exact hi),1,λw ι Im a h=>?_⟩;rw[rounds_succ];refine wp_mono (x h l) λe p m⟨d,ι1,z,g,e1⟩=>?_;subst d;obtain⟨ι2,k,e2⟩:=Uo (G.spec f id) g h.nx e1 q;exact⟨rfl,_,_,k,e2⟩;rename_i r l;obtain⟨q,rfl⟩:=Ww b;refine⟨λi h=>(by cases h),1,λw ι Im a h=>?_⟩;rw[rounds_succ];refine wp_mono (x h l) λe p m⟨d,ι1,z,g,e1⟩=>?_;subst d;obtain⟨ι2,k,e2⟩:=Uo (G.spec f id) g h.nx e1 q;exact⟨rfl,_,_,k,e2⟩;cases b
theorem load_ptr{ti:TI}{x r:AV}{v:Value}(b:RA w H ι Im x v)(c:Jg ti x H=V r): ∃a,v= .pointer (V a):=by unfold Jg at c;split at c;cases b;exact⟨_,rfl⟩;cases b;exact⟨_,rfl⟩;cases b;exact⟨_,rfl⟩;(cases b with|pv _ _ h=>cases h;exact⟨_,rfl⟩);cases c
def q09(tmps:Array Value):ResultVar->Sem Value
 | .tmp t=>pure (tmps.getD t undef)
 | .cell a t=>do loadVar t (<- asAddr (tmps.getD a undef))
theorem Fm(fn:Func)(tmps:Array Value):results fn tmps=(do
  let a <-fn.results.mapM (q09 tmps)
  pure (if h:a.size=1 then a[0]else .tuple a)):=by unfold results;rfl
theorem resOf_ok{G:GP}(g:uZ P G){a:Act}{s:St}{nt:Y}(h:Inv w a s ι Im nt){e:ResultVar}{x:AV}(c:BL G s e=V x):
  ∃v,(q09 a.tmps e).run P w= .ok v w/\RA w s.heap ι Im x v:=by cases e with|tmp t=>simp only[BL,wO]at c;subst c;exact⟨_,by simp only[q09,H?],h.env t⟩|cell b t=>simp only[BL]at c;split at c;rotate_left;cases c;rename_i ti j;obtain⟨ad,d⟩:=load_ptr (h.env b) c;obtain⟨u,f,i⟩:=PW (g t ti j) h.heap (h.env b) c;refine⟨u, ?_,i⟩;rw[d]at f;simp only[Instr.loadAt,Instr.sureAddr,pure_bind]at f;simp only[q09,d,asAddr,pure_bind];exact f
theorem BK{G:GP}(j:uZ P G){a:Act}{s:St}{nt:Y}(h:Inv w a s ι Im nt): ∀{g:Z ResultVar}{c:Z AV},oi G s g=V c->
  ∃d:Z Value,(g.mapM (q09 a.tmps)).run P w= .ok d w/\c.length=d.length/\ ∀(i:Y) x v,c[i]? =V x->d[i]? =V v->RA w s.heap ι Im x v
 |[],c,b=>by simp only[oi,wO]at b;subst b;exact⟨[],z?,rfl,z?⟩
 |r::l,c,b=>by simp only[oi]at b;split at b;rotate_left;cases b;rename_i v d y t;cases b;obtain⟨u,q,p⟩:=resOf_ok j h y;obtain⟨k,o,n,m⟩:=BK j h t;refine⟨u::k, ?_,by simp[n],λi x v e f=>?_⟩;rw[q1c];simp only[w9,q,o,tV,H?];cases i with|zero=>simp at e f;subst e;subst f;exact p|succ i=>simp at e f;exact m i x v e f
theorem Fo{G:GP}(g:uZ P G){fn:Func}{a:Act}{s:St}{nt:Y}(h:Inv w a s ι Im nt){xs:Z AV}(f:oi G s fn.results.toList=V xs):
  ∃v,(results fn a.tmps).run P w= .ok v w/\RA w s.heap ι Im (XD xs) v:=by
 obtain⟨b,i,c,e⟩:=BK g h f;rw[Fm,Array.mapM_eq_mapM_toList];have d :(Functor.map Z.toArray (fn.results.toList.mapM (q09 a.tmps)):Sem (Array Value)).run P w= .ok b.toArray w:=by rw[map_eq_pure_bind,w9,i,tV,H?]
 rw[w9,d,tV,H?];refine⟨_,rfl, ?_⟩;split
 ·rename_i hs;obtain⟨v,rfl⟩: ∃v,b=[v]:=by
   cases b with
   |nil=>simp at hs
   |cons v r=>cases r with
    |nil=>exact⟨v,rfl⟩
    |cons _ _=>simp at hs
  obtain⟨x,rfl⟩: ∃x,xs=[x]:=by
   cases xs with
   |nil=>simp at c
   |cons v r=>cases r with
    |nil=>exact⟨v,rfl⟩
    |cons _ _=>simp at c
  exact e 0 x v rfl rfl
 rename_i hs;have:XD xs= .xL xs:=by unfold XD;split;exfalso;apply hs;simpa using c.symm;rfl
 rw[this];exact .xL xs b c e
theorem T6: ∀{args:Z AV}{vs:Z Value}(k:Y),args.length=vs.length->(∀(i:Y) x v,args[i]? =V x->vs[i]? =V v->RA w H ι Im x v)->
  ∀t,(dd k args).get t= .undef\/ ∃i x v,t=k+i/\args[i]? =V x/\vs[i]? =V v/\(dd k args).get t=x
 |[],vs,k,_,_,t=> .inl rfl
 |x::r,[],k,h,_,t=>by simp at h
 |x::r,v::a,k,hl,h,t=>by simp only[dd,U!];split;rename_i e;exact .inr ⟨0,x,v,o?,rfl,rfl,rfl⟩;rcases T6 (args:=r) (vs:=a) (k+1) (by simpa using hl) (λi x v c b=>h (i+1) x v (by simpa using c) (by simpa using b)) t with g|⟨i,y,u,e,g1,g2,g3⟩;exact .inl g;exact .inr ⟨i+1,y,u,o?,by simpa using g1,by simpa using g2,g3⟩
theorem unz_ok{x:AV}{v:Value}(h:RA w H ι Im x v):RA w H ι Im (unz x) v:=by cases h with|QZ a=>exact .pv _ _ (.sl 0 [] a.block a.off 0 (λ_=>undef) (λh=>absurd rfl h) z? z? z? z? z? a.spot (λh=>absurd rfl h))|undef v=>exact .undef v|pv p v h=>exact .pv p v h|ptr β o c d k=>exact .ptr β o c d k|bP β g i o y r b d j h=>exact .bP β g i o y r b d j h|row β g off n v b s d k j h=>exact .row β g off n v b s d k j h|cE c o b off e z t l h=>exact .cE c o b off e z t l h|map β es xf d=>exact .map β es xf d|XK f a b q m A B u d=>exact .XK f a b q m A B u d|agg c e hl l h=>exact .agg c e hl l h|xL c e hl h=>exact .xL c e hl h
theorem sub_evo{d:World}{c:qt}{ι0:uT}{f:Y->Prop}{L:Z Y}{g :qt}(hs:Kf H L g)(a:yA d c ι0 f w H ι Im){m:Y}{r:Z Y}(l:L=L? m++r)
  (k: ∀β b,c.get β=V b->β<m):yA d c ι0 f w g (K0 ι L) Im where
 comp:=λβ b e=>by (obtain⟨q,i,h⟩:=a.comp β b e;have hl:L[β]? =V β:=by rw[l];exact Bv m r (k β b e));(refine⟨q.aa (pos L),by rw[hs.look,hl];simp[i], ?_⟩;have:K0 ι L β=ι β:=by simp[K0,hl]);rw[this];exact WZ _ h
 im:=a.im
 sR:=a.sR
 tC:=λγ x z j hu=>by obtain⟨β,p,h1,o,rfl,n⟩:=hs.inv (ι:=ι) j;rw[qD.tK,n]at hu;exact a.tC β p z o hu
 wV:=a.wV
 size:=a.size
 io:=a.io
theorem Oj{k:World}{j:qt}{ι0:uT}{l:Y->Prop}{a:Act}{s:St}{nt:Y}(h:Inv w a s ι Im nt){x:AV}{u:Value}(p:RA w s.heap ι Im x u)
  (v:yA k j ι0 l w s.heap ι Im) {m:Y} (q: ∀β b,j.get β=V b->β<m) {dP:J} {r:AV} {d :qt} (c:finish m dP x s=V (r,d)):
  ∃ι' e,zr w d ι' e/\yA k j ι0 l w d ι' e/\RA w d ι' e r u:=by
 have hinv:Inv w ⟨#[u],[]⟩ { s with env:=[(0,x)] } ι Im 0:=by refine⟨h.heap,λt=>?_,h.nx,A! _,rfl⟩;cases t with|zero=>simpa[U!]using p|succ t=>simp only[U!];rw[if_neg o?];exact .undef _
 have key: ∀{f:St}{g:Y->Prop},Inv w ⟨#[u],[]⟩ f ι g 0->yA w s.heap ι Im w f.heap ι g->(match dN f.heap (L? m) (unz (f.env.get 0)).refs with
   |some (L,H)=>V ((unz (f.env.get 0)).aa (pos L),H)
   |none=>C)=V (r,d)-> ∃ι' e,zr w d ι' e/\yA k j ι0 l w d ι' e/\RA w d ι' e r u:=by
  intro f g i e1 c;split at c<;>cases c;rename_i L B;obtain⟨hs,A,rr,z⟩:=Zx q1a B;refine⟨K0 ι L,g,hs.hinv i.heap,sub_evo hs (v.trans e1) z q, ?_⟩;have n:=unz_ok (i.env 0);simp only[E_]at n;exact JQ _ n λβ o b y=>hs.Tl (A β o) b y
 unfold finish at c;cases dP with|true=>simp only[if_true]at c;exact key hinv (Y! _ _ _ _) c|false=>simp only[vH,if_false]at c;obtain⟨g,i,e1⟩:=cy x.rows hinv;exact key i e1 c
theorem runFn_ok{G:GP}{O:jb}(hm:P.follows .mixedOrders=U)(E:uZ P G)(hF:Ir P G)(hO:Sound P G O){f:I}{args:Z AV}{H:qt}{r:AV}{H' :qt}
  (c:Xx G O f args H=V (r,H')):enters P f/\ZY P f args H r H' :=by
 unfold Xx at c;split at c;cases c;rename_i d L;obtain⟨fn,g1,g2,g3,g4,g5,ed,o⟩:=hF.fn f d L;refine⟨⟨fn,g1,g2,by rw[g3];rfl⟩,λw ι Im g hi hl D=>?_⟩;split at c;rotate_left;cases c;rename_i hk;have B: ∀β b,H.get β=V b->β<H.length:=λβ b hb=>by have:=(fx H 0 hk hb).2;omega
 have hinv:Inv w { tmps:=(⟨g⟩:Array Value)++s_ (fn.ntmps-(⟨g⟩:Array Value).size) undef,defers:=[] } ⟨dd 0 args,H,H.length⟩ ι Im d.nt:=by refine⟨hi,λt=>?_,B, ?_,rfl⟩;simp only;rcases T6 0 hl D t with h|⟨i,x,v,e,k,p,h3⟩;rw[h];exact .undef _;(rw[h3];have:t=i:=o?;subst this;have ht:t<g.length:=(qK p).1;have:(((⟨g⟩:Array Value)++s_ (fn.ntmps-(⟨g⟩:Array Value).size) undef).getD t undef)=v:=by rw[Array.getD_eq_getD_getElem?,Array.getElem?_append_left (by simpa using ht)];simp only[Z.getElem?_toArray,p,i!]);rw[this];exact D t x v k p;simp only[Array.size_append,Array.size_replicate];omega
 have n: ∀{s q :St}{ex:Ex}{w:World}{ι:uT}{Im:Y->Prop}{a:Act},Inv w a s ι Im d.nt->exec G O f d.body s=V (ex,q)->
   d.body.wp P (λe F j =>e=ex.Ts/\oM w s.heap ι Im d.nt q F j) a w:=
  λh c=>As hm E hO f d L o d.body ed (λ_ _ h=>h) h c
 have close: ∀{s:St}{ex:Ex},exec G O f d.body ⟨dd 0 args,H,H.length⟩=V (ex,s)->(ex= .normal\/ex= .ret)->(match oi G (sG (G.cmd f 999999) s) d.results with
   |some g=>finish H.length (G.dP f) (XD g) (sG (G.cmd f 999999) s)
   |none=>C)=V (r,H')->Calls P f ⟨g⟩ w λe j => ∃v ι' m,e= .returned v/\zr j H' ι' m/\yA w H ι Im j H' ι' m/\RA j H' ι' m r v:=by
  intro s ex hs hex c;split at c;rotate_left
  ·cases c
  rename_i xs l;refine calls_of_wp g1 g3 (wp_mono (n hinv hs) λe F j⟨he,W⟩=>?_);obtain⟨ι1,Z0,k,e1⟩:=W.post (G.cmd f 999999);subst he;rw[<- g5]at l;obtain⟨v,u,R⟩:=Fo E k l;obtain⟨ι2,Q,A,z,y⟩:=Oj k R e1 B c;rcases hex with rfl|rfl
  ·exact⟨k.defers,v,u,v,ι2,Q,rfl,A,z,y⟩
  exact⟨k.defers,v,u,v,ι2,Q,rfl,A,z,y⟩
 split at c;cases c;(rename_i ex s X hs;refine close hs ?_ c;cases ex with|normal=>exact .inl rfl|ret=>exact .inr rfl|exit i=>exact absurd rfl (X i));cases c
def XI[xY](P:Program)(S:rX):Prop:= ∀f g,S.call f=V g-> ∀args H r a,g args H=V (r,a)->enters P f/\ZY P f args H r a
theorem orc_ok[xY]{G:GP}{S:rX}(a:P.follows .mixedOrders=U)(b:uZ P G)(c:Ir P G)(e:XI P S): ∀n,Sound P G (UE G S n)
 |0=>⟨⟨λ_ _ _ _ _ h=>by simp[UE]at h⟩,λ_ _ _ _ _ h=>by simp[UE]at h⟩
 |n+1=>by have d:=orc_ok a b c e n;refine⟨⟨λf args H r j h=>?_⟩,λf id s ex s' h=>?_⟩;simp only[UE]at h;split at h;rename_i g i;exact e f g i args H r j h;exact runFn_ok a b c d h;simp only[UE]at h;exact loop_ok a b c d h
end
def Ends(p:Y->Prop):Prop:= ∃n,∀ m,n<=m->p m
theorem Ends.and{p q:Y->Prop}(f:Ends p)(e:Ends q):Ends λm=>p m/\q m:=
 let⟨a,d⟩:=f
 let⟨b,c⟩:=e
 ⟨max a b,λm hm=>⟨d m o?,c m o?⟩⟩
theorem Ends.mono{p q:Y->Prop}(h: ∀m,p m->q m)(d:Ends p):Ends q:=
 let⟨a,c⟩:=d
 ⟨a,λm b=>h m (c m b)⟩
theorem Ends.of{p:Prop}(h:p):Ends λ_=>p:=⟨0,λ_ _=>h⟩
theorem Ends.now{p:Y->Prop}(h:Ends p): ∃n,p n:=let⟨a,b⟩:=h;⟨a,b a (ke _)⟩
open Classical in
noncomputable def E2 {α:Type} (F:Y->T α):T α:=
 if h: ∃r,Ends λm=>F m=V r then V h.choose else C
theorem pB{α:Type}{F:Y->T α}{r:α}:E2 F=V r↔Ends λm=>F m=V r:=by unfold E2;constructor;intro h;split at h;rename_i a;cases h;exact a.choose_spec;cases h;intro h;have a: ∃r,Ends λm=>F m=V r:=⟨r,h⟩;rw[dif_pos a];obtain⟨n,c,b⟩:=(h.and a.choose_spec).now;rw[c]at b;exact b.symm
noncomputable def omega (G:GP) (S:rX):jb:=
 ⟨λf args H=>E2 λn=>(UE G S n).call f args H,λf id s=>E2 λn=>(UE G S n).loop f id s⟩
section
variable {G:GP} {S:rX}
variable {O:jb} {F:Y->jb}
structure i9 (O:jb) (F:Y->jb):Prop where
 call: ∀f args H r,O.call f args H=V r->Ends λm=>(F m).call f args H=V r
 loop: ∀f id s r,O.loop f id s=V r->Ends λm=>(F m).loop f id s=V r
theorem YJ(c:i9 O F){f:I}{args:Z AV}{H:qt}{nx:Y}{e:ru}(h:Q0 O f args H nx=V e):Ends λm=>Q0 (F m) f args H nx=V e:=by unfold Q0 at h |-;split at h;cases h;rename_i L H0 hs;split at h;cases h;rename_i v H' b;refine(c.call _ _ _ _ b).mono λm a=>?_;rw[a];exact h
theorem T3(d:i9 O F){o:Op}{E:uS}{H:qt}{nx:Y}{e:ru}(h:ry G O o E H nx=V e):Ends λm=>ry G (F m) o E H nx=V e:=by cases o with|call c=>(obtain⟨callee,args,ai⟩:=c;cases callee with|value fo=>unfold ry at h |-;simp only at h |-;split at h;exact YJ d h;exact YJ d h;cases h|_=>exact Ends.of h)|makeFunc fn a b=>cases fn<;>exact Ends.of h|makeMap t r=>cases r<;>exact Ends.of h|_=>exact Ends.of h
theorem FM(b:i9 O F){o:K}{s s' :St}(h:KW G O o s=V s'):Ends λm=>KW G (F m) o s=V s' :=by unfold KW at h |-;split at h;rename_i v ws nx c;refine(T3 b c).mono λm a=>?_;rw[a];exact h;cases h
theorem Wf(b:i9 O F)(all:Z K): ∀{l:Z K}{s a :St},We G O all l s=V a ->Ends λm=>We G (F m) all l s=V a
 |[],s,a,h=>Ends.of h
 |o::r,s,a,h=>by simp only[We]at h |-;split at h;split at h;rename_i s1 c;refine((FM b c).and (Wf b all h)).mono λm⟨e,d⟩=>?_;simp only[e,d];cases h;exact Wf b all h;cases h
theorem Jz(c:i9 O F)(all:Z K){d:J}: ∀{l:Z K}{i:Y}{s b :St}{a:Z (Y×Z Y×Z Y)},ig G O all d i l s a=V b ->Ends λm=>ig G (F m) all d i l s a=V b
 |[],i,s,b,a,h=>Ends.of h
 |o::r,i,s,b,a,h=>by simp only[ig]at h |-;split at h;split at h;rename_i v ws nx g;refine((T3 c g).and (Jz c all h)).mono λm⟨f,e⟩=>?_;rw[f];exact e;cases h;exact Jz c all h;cases h
theorem XO(p:i9 O F){f:I}: ∀{c:Code}{s:St}{r:Ex×St},exec G O f c s=V r->Ends λm=>exec G (F m) f c s=V r:=by
 intro c;induction c with
  |region id ops d=>intro s r h;cases d with|false=>simp only[exec]at h |-;split at h<;>cases h;rename_i g a;refine(Wf p _ a).mono λm n=>?_;rw[n]|true=>simp only[exec]at h |-;split at h<;>cases h;rename_i g a;refine(Jz p _ a).mono λm n=>?_;rw[n]
  |seq x y k q=>intro s r h;simp only[exec]at h |-;split at h;rename_i g a;refine((k a).and (q h)).mono λm⟨e,t⟩=>?_;rw[e];exact t;rename_i g a;refine(k a).mono λm e=>?_;rw[e];exact h;rename_i i g a;refine(k a).mono λm e=>?_;rw[e];exact h;cases h
  |cond o x y k q=>intro s r h;simp only[exec]at h |-;split at h;(rename_i b hb;cases b with|true=>exact k h|false=>exact q h);cases h
  |block id c l=>
   intro s r h;by_cases hl: ∃b,c= .loop b;obtain⟨b,rfl⟩:=hl;simp only[exec]at h |-;split at h;exact p.loop _ _ _ _ h;cases h
   have hex: ∀O,exec G O f (.block id c) s=match exec G O f c s with
    |some (.exit i,j)=>if i=id then V (.normal,j)else V (.exit i,j)
    |some (.normal,j)=>V (.normal,j)
    |some (.ret,j)=>V (.ret,j)
    |none=>C:=by
    intro O;cases c<;>first|rfl|exact absurd ⟨_,rfl⟩ hl
   simp only[hex]at h |-;split at h;rename_i i g a;refine(l a).mono λm e=>?_;rw[e];exact h;rename_i g a;refine(l a).mono λm e=>?_;rw[e];exact h;rename_i g a;refine(l a).mono λm e=>?_;rw[e];exact h;cases h
  |skip=>intro s r h;exact Ends.of h
  |exit id=>intro s r h;exact Ends.of h
  |ret=>intro s r h;exact Ends.of h
  |_=>intro s r h;simp[exec]at h
theorem lJ(d:i9 O F){f:I}{id:Y}{s:St}{r:Ex×St}(h:rK G O f id s=V r):Ends λm=>rK G (F m) f id s=V r:=by unfold rK at h |-;split at h;cases h;rename_i fi Wm;split at h;cases h;rename_i c hc;split at h;rename_i e a;split at h;rename_i s2 j;refine((XO d a).and (d.loop _ _ _ _ h)).mono λm⟨b,g⟩=>?_;simp only[b,j,g];cases h;rename_i i e a;refine(XO d a).mono λm b=>?_;simp only[b];exact h;rename_i e a;refine(XO d a).mono λm b=>?_;simp only[b];exact h;cases h
theorem JS(c:i9 O F){f:I}{args:Z AV}{H:qt}{r:AV×qt}(h:Xx G O f args H=V r):Ends λm=>Xx G (F m) f args H=V r:=by unfold Xx at h |-;split at h;cases h;rename_i fi Wm;split at h;rotate_left;cases h;rename_i b;simp only[b,if_true];split at h;cases h;(rename_i ex s a hs;refine(XO c hs).mono λm d=>?_;rw[d];cases ex with|exit i=>exact absurd rfl (a i)|_=>exact h);cases h
theorem KI:i9 (omega G S) (UE G S):=⟨λ_ _ _ _ h=>pB.1 h,λ_ _ _ _ h=>pB.1 h⟩
theorem UF: ∀n,i9 (UE G S n) λ_=>UE G S (n+1)
 |0=>⟨λ_ _ _ _ h=>by simp[UE]at h,λ_ _ _ _ h=>by simp[UE]at h⟩
 |n+1=>by have a:=UF n;refine⟨λf args H r h=>?_,λf id s r h=>?_⟩;rw[UE]at h |-;simp only at h |-;split at h;exact Ends.of h;exact JS a h;rw[UE]at h |-;simp only at h |-;exact lJ a h
theorem Ru{n:Y}{f:I}{args:Z AV}{H:qt}{r:AV×qt}(h:(UE G S n).call f args H=V r):(omega G S).call f args H=V r:=by refine pB.2 ⟨n,λm b=>?_⟩;obtain⟨k,rfl⟩:=K' b;induction k with|zero=>exact h|succ k a=>obtain⟨_,c⟩:=((UF (n+k)).call f args H r (a o?)).now;exact c
theorem omega_fn{f:I}{args:Z AV}{H:qt}{r:AV×qt}(hs:S.call f=C)(h:Xx G (omega G S) f args H=V r):(omega G S).call f args H=V r:=by refine pB.2 ?_;obtain⟨n,hn⟩:=JS KI h;refine⟨n+1,λm hm=>?_⟩;obtain⟨k,rfl⟩: ∃k,m=k+1:=⟨m-1,o?⟩;simp only[UE,hs];exact hn k o?
theorem DH{f:I}{id:Y}{s:St}{r:Ex×St}(h:rK G (omega G S) f id s=V r):(omega G S).loop f id s=V r:=by refine pB.2 ?_;obtain⟨n,hn⟩:=lJ KI h;refine⟨n+1,λm hm=>?_⟩;obtain⟨k,rfl⟩: ∃k,m=k+1:=⟨m-1,o?⟩;simp only[UE];exact hn k o?
theorem omega_ok[xY]{P:Program}(a:P.follows .mixedOrders=U)(c:uZ P G)(d:Ir P G)(b:XI P S){f:I}{args:Z AV}{H:qt}{r:AV}{H' :qt}
  (h:(omega G S).call f args H=V (r,H')):ZY P f args H r H' :=by obtain⟨n,hn⟩:=(pB.1 h).now;exact((orc_ok a c d b n).call f args H r H' hn).2
theorem orc_loop{n:Y}{f:I}{id:Y}{s:St}{r:Ex×St}(h:(UE G S n).loop f id s=V r):(omega G S).loop f id s=V r:=by refine pB.2 ⟨n,λm b=>?_⟩;obtain⟨k,rfl⟩:=K' b;induction k with|zero=>exact h|succ k a=>obtain⟨_,c⟩:=((UF (n+k)).loop f id s r (a o?)).now;exact c
theorem Bo(n:Y):i9 (UE G S n) λ_=>omega G S:=
 ⟨λ_ _ _ _ h=>Ends.of (Ru h),λ_ _ _ _ h=>Ends.of (orc_loop h)⟩
theorem DG(f:I)(id:Y)(s:St):(omega G S).loop f id s=rK G (omega G S) f id s:=by cases h:rK G (omega G S) f id s with|some r=>exact DH h|none=>cases c:(omega G S).loop f id s with|none=>rfl|some r=>obtain⟨n,hn⟩:=pB.1 c;have b:=hn (n+1) o?;simp only[UE]at b;obtain⟨_,a⟩:=(lJ (Bo n) b).now;rw[h]at a;cases a
theorem DF{f:I}(hs:S.call f=C)(args:Z AV)(H:qt):(omega G S).call f args H=Xx G (omega G S) f args H:=by cases h:Xx G (omega G S) f args H with|some r=>exact omega_fn hs h|none=>cases c:(omega G S).call f args H with|none=>rfl|some r=>obtain⟨n,hn⟩:=pB.1 c;have b:=hn (n+1) o?;simp only[UE,hs]at b;obtain⟨_,a⟩:=(JS (Bo n) b).now;rw[h]at a;cases a
end
end Go.Gm
namespace Go.Gm
open Go
def fnOf(P:Program)(f:I):T FI:=
 match P.funcs[f]? with
 |some fn=>match fn.body with
  |some b=>if fn.name≠ "runtime.NumGoroutine" /\nW fn.ntmps b=U/\(hK b).Nodup then V ⟨fn.ntmps,fn.results.toList,b⟩else C
  |none=>C
 |none=>C
theorem fnOf_ok{P:Program}{f:I}{a:FI}(h:fnOf P f=V a): ∃fn,P.funcs[f]? =V fn/\(fn.name== "runtime.NumGoroutine")=N/\fn.body=V a.body/\fn.ntmps=a.nt/\
  fn.results.toList=a.results/\nW a.nt a.body=U/\(hK a.body).Nodup:=by
 unfold fnOf at h;split at h<;>try cases h
 rename_i fn c;split at h<;>try cases h
 rename_i b e;split at h<;>try cases h
 rename_i d;exact⟨fn,c,by simpa using d.1,e,rfl,rfl,d.2.1,d.2.2⟩
def gpOf(P:Program)(spec:I->Y->sk)(owned dP:I->J)(pre:I->Y->Z Y)(GM mrf:M->J)(cmd:I->Y->Z Iq):GP:=⟨tiOf P,fnOf P,spec,owned,dP,pre,GM,mrf,cmd⟩
theorem gp_types{P:Program}{spec:I->Y->sk}{owned dP:I->J}{pre:I->Y->Z Y}{GM mrf:M->J}{cmd:I->Y->Z Iq}:uZ P (gpOf P spec owned dP pre GM mrf cmd):=λ_ _ h=>tiOf_ok h
theorem gp_fns{P:Program}{spec:I->Y->sk}{owned dP:I->J}{pre:I->Y->Z Y}{GM mrf:M->J}{cmd:I->Y->Z Iq}:Ir P (gpOf P spec owned dP pre GM mrf cmd):=⟨λ_ _ h=>fnOf_ok h⟩
def Bn(w:World)(b:Y):Prop:=b<w.heap.size
theorem old_inv[xY](w:World)(ι:uT)(a:xY.ok w/\ ∀b,xY.on b->b<w.heap.size):zr w [] ι (Bn w) where
 TG:=a.1
 HS:=a.2
 d5:=λ_ _ h=>by cases h
 inj:=λ_ _ _ _ _ h=>by cases h
 im:=λ_ h=>h
 Hn:=λ_ _ _ h=>by cases h
def Iu(w:World)(c:Z PV)(cs:Z Value):Prop:=
 c.length=cs.length/\(∀ p∈c,p.vw=U)/\ ∀(i:Y) p v,c[i]? =V p->cs[i]? =V v->RP w (Bn w) p v
theorem Iu.append{w:World}{c f :Z PV}{cs a :Z Value}(h:Iu w c cs)(g :Iu w f a):Iu w (c++f) (cs++a):=by obtain⟨e,a2,a3⟩:=h;obtain⟨k,b2,j⟩:=g;refine⟨by simp[e,k],λp hp=>?_,λi p v d b=>?_⟩;rcases t?.1 hp with hp|hp;exact a2 p hp;exact b2 p hp;by_cases hi:i<c.length;rw[c? hi]at d;rw[c? (e ▸ hi)]at b;exact a3 i p v d b;rw[J? o?]at d;rw[J? o?]at b;exact j _ p v d (e ▸ b)
theorem Iu.one{w:World}{p:PV}{v:Value}(c:p.vw=U)(h:RP w (Bn w) p v):Iu w [p] [v]:=by refine⟨rfl,by simpa using c,λi q u a b=>?_⟩;cases i with|zero=>simp at a b;subst a;subst b;exact h|succ i=>simp at a
theorem Iu.nil{w:World}:Iu w [] []:=⟨rfl,z?,z?⟩
def wq{α:Type}(P:Program)(t:M)(e:α->Z PV)(ok:α->Prop)(n:Y):Prop:=
 ∀(H:Type)(enc:M×Value->H)(w:World)(base:Y)(spare:Y->J)(held:J)(fuel:Y)(cs:Z Value)(x:DataW H×Z MemPlace),fuel<=n->
  DataW.trod enc P w base spare held fuel t cs=V x-> ∃a:α,ok a/\(e a).length=P.cellsOf t/\Iu w (e a) cs
section
variable {P:Program}
theorem wq.int{t:M}{k:IntKind}(c:P.underlying t=V (.int k))(d:P.cellsOf t=1)(n:Y):wq P t (λx:Int=>[PV.int k x]) (λx=>(Lit.int k x).wf=U) n:=by intro H enc w base spare held fuel cs x _ h;obtain⟨a,rfl,_,b⟩:=DataW.trod_int c h;exact⟨a,b,by simp[d],.one rfl (.int k a)⟩
theorem wq.bool{t:M}(b:P.underlying t=V .bool)(c:P.cellsOf t=1)(n:Y):wq P t (λx:J=>[PV.bool x]) (λ_=>True) n:=by intro H enc w base spare held fuel cs x _ h;obtain⟨a,rfl,_⟩:=DataW.trod_bool b h;exact⟨a,trivial,by simp[c],.one rfl (.bool a)⟩
theorem wq.str{t:M}(b:P.underlying t=V .string)(c:P.cellsOf t=1)(n:Y):wq P t (λx:Z UInt8=>[PV.str x]) (λx=>x.length<=maxLen) n:=by intro H enc w base spare held fuel cs x _ h;obtain⟨a,rfl,_,hl⟩:=DataW.trod_string b h;exact⟨a.data.toList,by simpa using hl,by simp[c],.one rfl (.str _)⟩
theorem wq.map{α β:Type}{t:M}{e:α->Z PV}{ok:α->Prop}{c :β->Z PV}{b :β->Prop}{n:Y}(h:wq P t e ok n)(f:α->β)
  (g: ∀a,ok a->b (f a)/\c (f a)=e a):wq P t c b n:=by intro H enc w base spare held fuel cs x hn d;obtain⟨a,k,j,i⟩:=h H enc w base spare held fuel cs x hn d;obtain⟨g1,g2⟩:=g a k;exact⟨f a,g1,by rw[g2];exact j,by rw[g2];exact i⟩
theorem wq.mono{α:Type}{t:M}{e:α->Z PV}{ok:α->Prop}{n m:Y}(h:wq P t e ok n)(b:m<=n):wq P t e ok m:=
 λH enc w base spare held fuel cs x hn a=>h H enc w base spare held fuel cs x (c! hn b) a
def slP(b:J)(a:Y)(es:Z (Z PV)):PV:= .sl (b&&es.isEmpty) (xB a es) es
theorem Dr{α:Type}{f:Y->T α}: ∀{n:Y}{l:Z α},(L? n).mapM f=V l->l.length=n/\ ∀i,i<n->f i=l[i]? :=by
 intro n l h;have key: ∀(k:Y)(m:Y)(l:Z α),(q22 k m).mapM f=V l->l.length=m/\ ∀i,i<m->f (k+i)=l[i]? :=by intro k m;induction m generalizing k with|zero=>intro l h;simp at h;subst h;exact⟨rfl,λi hi=>o?⟩|succ m b=>intro l h;rw[q18,q1c]at h;simp only[zl,J!,T.pure_def,wO]at h;obtain⟨a,d,r,c,rfl⟩:=h;obtain⟨g,e⟩:=b (k+1) r c;refine⟨by simp[g],λi hi=>?_⟩;cases i with|zero=>simpa using d|succ i=>have:=e i o?;rw[show k+(i+1)=k+1+i from o?,this];simp
 have:=key 0 n l (by rwa[<- R']);simpa using this
theorem Wg{w:World}{base:Y}{a:Addr}{n:Y}{cs:Z Value}(h:w.cells? base a n=V cs):cs.length=n/\ ∀i,i<n->w.cell? (a.add i)=cs[i]? :=by unfold World.cells? at h;split at h;exact Dr h;cases h
theorem cell_lt{w:World}{a:Addr}{v:Value}(h:w.cell? a=V v):a.block<w.heap.size/\a.spot=C:=by unfold World.cell? at h;split at h;rename_i c t f b;refine⟨?_, ?_⟩;rw[B!]at b;exact b.1;split at h;cases h;(rename_i hs;cases d:a.spot with|none=>rfl|some s=>simp[d]at hs);cases h
theorem Ti{α β:Type}{p:Y->α->β->Prop}: ∀(l:Z β),(∀ i b,l[i]? =V b-> ∃a,p i a b)-> ∃r:Z α,r.length=l.length/\ ∀(i:Y) a b,r[i]? =V a->l[i]? =V b->p i a b:=by intro l;induction l generalizing p with|nil=>intro _;exact⟨[],rfl,z?⟩|cons b l e=>intro h;obtain⟨a,g⟩:=h 0 b rfl;obtain⟨r,k,j⟩:=e (p:=λi=>p (i+1)) (λi m f=>h (i+1) m (by simpa using f));refine⟨a::r,by simp[k],λi x y d c=>?_⟩;cases i with|zero=>simp at d c;subst d;subst c;exact g|succ i=>exact j i x y (by simpa using d) (by simpa using c)
theorem wq.slice{α:Type}{t el:M}{sz:Y}{e:α->Z PV}{ok:α->Prop}{n:Y}(ht:P.underlying t=V (.slice el))(hc:P.cellsOf t=1)(rj:P.cellsOf el=sz)(L:0<sz)
  (h:wq P el e ok n):wq P t (λx:J×Z α=>[slP x.1 sz (x.2.map e)]) (λx=>x.2.length<=maxLen/\ ∀a∈x.2,ok a) (n+1):=by
 intro H enc w base spare held fuel cs x hn hx;rcases DataW.trod_slice ht hx with ⟨rfl,_⟩|⟨a,len,cap,elems,rest,m,rfl,rfl,_,hb,F,hcm,SF,X,_,_⟩;exact⟨(U,[]),⟨z?,z?⟩,by simp[hc],.one rfl (.oZ 0)⟩
 rw[rj]at X;obtain⟨r,u,D⟩:=Ti (p:=λi(y:α×Z Value)(_:DataW H×Z MemPlace)=>w.cells? base (a.add (i*sz)) sz=V y.2/\ok y.1/\(e y.1).length=sz/\Iu w (e y.1) y.2) elems (λi b v=>by
  have hi:i<len:=SF ▸ (qK v).1
  have g:=X i hi
  rw[v,J!]at g
  obtain⟨cs,g1,g2⟩:=g
  obtain⟨y,k1,k2,k3⟩:=h H enc w base spare held m cs b o? g2
  exact⟨(y,cs),g1,k1,by rw[<- rj];exact k2,k3⟩)
 have d: ∀(i:Y) y,r[i]? =V y->w.cells? base (a.add (i*sz)) sz=V y.2/\ok y.1/\(e y.1).length=sz/\Iu w (e y.1) y.2:=by intro i y c;have hi:i<elems.length:=u ▸ (qK c).1;exact D i y elems[i] c (by simp[hi])
 have W:r.length=len:=by rw[u,SF]
 have R:r≠[]->a.block<w.heap.size/\a.spot=C:=by intro s;obtain⟨y,r',rfl⟩:=Z.exists_cons_of_ne_nil s;obtain⟨g1,_⟩:=d 0 y rfl;obtain⟨c1,Q⟩:=Wg g1;have:=Q 0 L;rw[show a.add (0*sz)=a from by simp[Addr.add],show a.add 0=a from by simp[Addr.add]]at this;have jv:0<y.2.length:=o?;rw[yc jv]at this;exact cell_lt this
 refine⟨(N,r.map (·.1)),⟨by simp[W];omega,λz hz=>?_⟩,by simp[hc], ?_⟩;obtain⟨y,c,rfl⟩:=B?.1 hz;obtain⟨i,hi⟩:=kS c;exact(d i y hi).2.1;refine .one rfl ?_;simp only[slP,J.false_and,Z.map_map];show RP _ _ (L4 N sz _) _;obtain⟨ab,ao,II⟩:=a;have hlen:(r.map ((λx=>e x) ∘ λx=>x.1)).length=len:=by simp[W]
 rw[<- hlen];have f: ∀(i:Y) l,(r.map ((λx=>e x) ∘ λx=>x.1))[i]? =V l-> ∃y,r[i]? =V y/\l=e y.1:=by intro i l hl;simp only[Y?,gD,Function.comp]at hl;obtain⟨y,q,o⟩:=hl;exact⟨y,q,o.symm⟩
 have U9: ∀(i:Y) y,r[i]? =V y-> ∀j,j<sz->w.cell? ⟨ab,ao+(i*sz+j),C⟩=y.2[j]? :=by intro i y c j B;obtain⟨g1,_⟩:=d i y c;obtain⟨c1,Q⟩:=Wg g1;have AN:=(R (λA=>by rw[A]at c;simp at c)).2;simp only at AN;subst AN;rw[<- Q j B];congr 1;unfold Addr.add;by_cases q:i*sz=0<;>by_cases o:j=0<;>simp[q,o]<;>omega
 refine RP.mk ?_;refine .sl sz _ ab ao cap (λk=>(r[k / sz]?.bind λy=>y.2[k % sz]?).getD undef) (λs=>(R (λA=>s (by rw[A];rfl))).1) (by rw[Z.length_map,W];exact F) (λl hl=>?_) (λi hi=>?_) (λi l j p q o=>?_) (λi l j p q o=>?_) II
  (λs=>(R (λA=>s (by rw[A];rfl))).2)
 obtain⟨i,hi⟩:=kS hl;obtain⟨y,c,rfl⟩:=f i l hi;exact(d i y c).2.2.1;rw[hlen]at hi;have hq:i / sz<len:=Y.div_lt_of_lt_mul (by rw[W!];exact hi);have hm:=Y.mod_lt i L;have E :i / sz<r.length:=o?;have c:r[i / sz]? =V r[i / sz]:=yc E;have g:=U9 (i / sz) _ c (i % sz) hm;rw[show i / sz*sz+i % sz=i from by rw[W!];exact Y.div_add_mod i sz]at g;rw[g,c];simp only[qM];obtain⟨g1,_,g3,g4⟩:=d _ _ c;obtain⟨c1,_⟩:=Wg g1;have:i % sz<(r[i / sz]).2.length:=o?;rw[yc this];rfl;obtain⟨y,c,rfl⟩:=f i l q;exact(d i y c).2.2.2.2.1 p (zj o);obtain⟨y,c,rfl⟩:=f i l q;obtain⟨g1,_,g3,g4,g5,g6⟩:=d i y c;have B:j<sz:=g3 ▸ (qK o).1;have e1:(i*sz+j) / sz=i:=by rw[W!,Y.mul_add_div L,Y.div_eq_of_lt B,a!]
 have e2:(i*sz+j) % sz=j:=by rw[W!,Y.mul_add_mod,Y.mod_eq_of_lt B]
 have TN:j<y.2.length:=by rw[<- g4];omega
 simp only[e1,e2,c,qM,yc TN,i!];exact g6 j p _ o (yc TN)
def d9{α:Type}(P:Program)(b:Z Field)(e:α->Z PV)(ok:α->Prop)(n off:Y):Prop:=
 ∀(H:Type)(enc:M×Value->H)(w:World)(base:Y)(spare:Y->J)(held:J)(fuel:Y)(cs:Z Value),fuel<=n->off<=cs.length->
  (∀ f∈b,∃ x,DataW.trod enc P w base spare held fuel f.type ((cs.drop f.offset).take (P.cellsOf f.type))=V x)->
  ∃(a:α)(m:Y),ok a/\(e a).length=m/\off+m<=cs.length/\Iu w (e a) ((cs.drop off).take m)
theorem d9.nil(n off:Y):d9 P [] (λ_:Unit=>[]) (λ_=>True) n off:=by intro H enc w base spare held fuel cs _ a _;exact⟨(),0,trivial,rfl,by simpa using a,by simpa using Iu.nil⟩
theorem d9.cons{α β:Type}{f:Field}{j:Z Field}{e1:α->Z PV}{g:α->Prop}{e2:β->Z PV}{e:β->Prop}{n off c:Y}(k:f.offset=off)(i:P.cellsOf f.type=c)
  (o:wq P f.type e1 g n) (l:d9 P j e2 e n (off+c)):d9 P (f::j) (λx:α×β=>e1 x.1++e2 x.2) (λx=>g x.1/\e x.2) n off:=by intro H enc w base spare held fuel cs hn ZN d;obtain⟨x,h⟩:=d f z?;rw[i,k]at h;obtain⟨a,t,a2,a3⟩:=o H enc w base spare held fuel _ x hn h;rw[i]at a2;have hl:=a3.1;rw[a2,Z.length_take,Z.length_drop]at hl;have p:off+c<=cs.length:=o?;obtain⟨b,m,s,b2,b3,r⟩:=l H enc w base spare held fuel cs hn p (λq u=>d q (by simp[u]));refine⟨(a,b),c+m,⟨t,s⟩,by simp[a2,b2],o?, ?_⟩;have:=a3.append r;rwa[show (cs.drop off).take c++(cs.drop (off+c)).take m=(cs.drop off).take (c+m)from by rw[Z.take_add,q1j]]at this
theorem wq.struct{α:Type}{t:M}{g:Array Field}{e:α->Z PV}{ok:α->Prop}{n c:Y}(s:P.underlying t=V (.struct g))(l:P.cellsOf t=c)(hlen: ∀a,(e a).length=c)
  (h:d9 P g.toList e ok n 0):wq P t e ok (n+1):=by
 intro H enc w base spare held fuel cs x hn r;obtain⟨j,m,rfl,_,hl,b,u⟩:=DataW.trod_struct s r;obtain⟨a,k,y,o,h3,v⟩:=h H enc w base spare held m cs o? (A! _) (λf d=>by
  obtain⟨i,hi⟩:=kS d
  have p:g[i]? =V f:=by rw[<- N?];exact hi
  have q:i<j.length:=by
   rw[b]
   exact(B!.1 p).1
  exact⟨j[i],by rw[u i f p,yc q]⟩)
 have:k=c:=by rw[<- o];exact hlen a
 subst this;refine⟨a,y,by rw[o,l], ?_⟩;rwa[Z.drop_zero,Z.take_of_length_le (by rw[hl,l];exact ke _)]at v
end
end Go.Gm
namespace Go.Gm
open Go Go.ChangeShapes Go.WideShapes Go.RowKit
theorem Ju{H:Type}{enc:M×Value->H}{P:Program}(hl:laidOutB P=U){W j :World}{c :Y->J}:
  ∀{ts:Z M}{e:Z Value}{f:Z (DataW H)}{b:Z MemPlace},(∀ t∈ts,P.readableRec t=U/\t<P.types.size)->
  DataW.TrodAll enc P W 0 (λ_=>U) U ts e f b->(∀ p∈b,W.sameAt j p)->(∀ p∈b,c p.block=U)->DataW.TrodAll enc P j 0 c U ts e f b
 |[],e,f,b,_,h,_,_=>by obtain⟨rfl,rfl,rfl⟩:=trodAll_nil h;exact trodAll_mk0
 |t::ts,e,f,b,g,h,hs,i=>by
  obtain⟨v,lA,d,An,p,q,rfl,rfl,rfl,m,l⟩:=trodAll_cons h;have:=g t z?;exact trodAll_cons_mk (WideElems.Trod_stays hl this.1 this.2 m (λx a=>hs x (by simp[a])) (λx a=>i x (by simp[a])))
   (Ju hl (λt k=>g t (by simp[k])) l (λx a=>hs x (by simp[a])) (λx a=>i x (by simp[a])))
theorem Vs{H:Type}{enc:M×Value->H}{P:Program}{w:World}{base:Y}{spare:Y->J}{held:J}:
  ∀{ts:Z M}{c:Z Value}{e:Z (DataW H)}{f:Z MemPlace},DataW.TrodAll enc P w base spare held ts c e f->ts.length=c.length/\e.length=ts.length
 |[],c,e,f,h=>by obtain⟨rfl,rfl,rfl⟩:=trodAll_nil h;exact⟨rfl,rfl⟩
 |t::ts,c,e,f,h=>by obtain⟨v,lA,d,An,p,q,rfl,rfl,rfl,h1,g⟩:=trodAll_cons h;obtain⟨a,b⟩:=Vs g;exact⟨by simp[a],by simp[b]⟩
def Z4{α:Type}(P:Program)(t:M)(e:α->PV)(ok:α->Prop):Prop:=
 ∀(H:Type)(enc:M×Value->H)(w:World)(base c:Y)(spare:Y->J)(held:J)(v:Value)(d:DataW H)(b:Z MemPlace),Value.okWide P w .any c t v->
  DataW.Trod enc P w base spare held t v d b-> ∃a:α,ok a/\RP w (Bn w) (e a) v
theorem Z4.struct{α:Type}{P:Program}{t:M}{j:Array Field}{e:α->Z PV}{ok:α->Prop}(g:P.underlying t=V (.struct j))(h: ∀n,wq P t e ok n):Z4 P t (λa=> .agg (e a)) ok:=by intro H enc w base X6 spare held v d ps c ⟨fuel,f⟩;simp only[Value.okWide,g]at c;obtain⟨cs,rfl,_,_⟩:=c;obtain⟨a,i,h2,b⟩:=h fuel H enc w base spare held fuel _ _ (ke _) f;refine⟨a,i, ?_⟩;obtain⟨l⟩:=cs;exact .agg _ _ b.1 b.2.1 b.2.2
def oneD:TypeDesc->J
 | .bool| .int _| .string| .slice _=>U
 |_=>N
theorem Z4.one{α:Type}{P:Program}{t:M}{td:TypeDesc}{e:α->PV}{ok:α->Prop}(b:P.underlying t=V td)(g:oneD td=U)(h: ∀n,wq P t (λa=>[e a]) ok n):Z4 P t e ok:=by
 intro H enc w base X6 spare held v d ps c ⟨fuel,f⟩;obtain⟨a,k,h2,j⟩:=h fuel H enc w base spare held fuel _ _ (ke _) f;refine⟨a,k, ?_⟩;have i:v.cells= #[v]:=by simp only[Value.okWide,b]at c;cases td<;>simp[oneD]at g<;>simp only[Cell.okWide,b]at c<;>cases v<;>simp_all [Cell.ok,Value.cells]
 exact j.2.2 0 _ v rfl (by rw[i];rfl)
def gC{β:Type}(P:Program)(ts:Z M)(e:β->Z PV)(ok:β->Prop):Prop:=
 ∀(H:Type)(enc:M×Value->H)(w:World)(base f:Y)(spare:Y->J)(held:J)(a:Z Value)(d:Z (DataW H))(c:Z MemPlace),
  (∀(j:Y) t v,ts[j]? =V t->a[j]? =V v->Value.okWide P w .any f t v)->DataW.TrodAll enc P w base spare held ts a d c->
  ∃b:β,ok b/\(e b).length=a.length/\ ∀(i:Y) p v,(e b)[i]? =V p->a[i]? =V v->RP w (Bn w) p v
theorem gC.nil{P:Program}:gC P [] (λ_:Unit=>[]) (λ_=>True):=by intro H enc w base X6 spare held vs ds ps _ h;obtain⟨rfl,rfl,rfl⟩:=trodAll_nil h;exact⟨(),trivial,rfl,z?⟩
theorem gC.cons{α β:Type}{P:Program}{t:M}{ts:Z M}{e1:α->PV}{e:α->Prop}{e2:β->Z PV}{c:β->Prop}(s:Z4 P t e1 e)(r:gC P ts e2 c):
  gC P (t::ts) (λx:α×β=>e1 x.1::e2 x.2) (λx=>e x.1/\c x.2):=by intro H enc w base l spare held vs ds ps k h;obtain⟨v,o,d,B,p,q,rfl,rfl,rfl,n,m⟩:=trodAll_cons h;obtain⟨a,A,a2⟩:=s H enc w base l spare held v d p (k 0 t v rfl rfl) n;obtain⟨b,z,b2,u⟩:=r H enc w base l spare held o B q (λj t v x y=>k (j+1) t v (by simpa using x) (by simpa using y)) m;refine⟨(a,b),⟨A,z⟩,by simp[b2],λi x y g f=>?_⟩;cases i with|zero=>simp at g f;subst g;subst f;exact a2|succ i=>exact u i x y (by simpa using g) (by simpa using f)
theorem gC.weaken{β:Type}{P:Program}{ts:Z M}{e:β->Z PV}{ok:β->Prop}(h:gC P ts e ok):gC P ts e λ_=>True:=by intro H enc w base k spare held a j c i d;obtain⟨b,_,g,f⟩:=h H enc w base k spare held a j c i d;exact⟨b,trivial,g,f⟩
theorem NL[xY]{P:Program}{G:GP}{S:rX}(hm:P.follows .mixedOrders=U)(hG:uZ P G)(hF:Ir P G)(hS:XI P S)(hl:laidOutB P=U)
  {f:I} {fn:Func} {tb:M} (r:fn.resultTypes= #[tb]) (B:P.underlying tb=V .bool) {s:ChangeSpec} (d:s.vars=[])
  (m: ∀t∈fn.params.toList,P.readableRec t=U/\t<P.types.size)
  (a: ∀(H:Type)(g:Z (DataW H)),g.length=fn.params.toList.length->s.fn H g={ results:=[.lit (.bool U)],args:=g })
  {β:Type} {e:β->Z PV} {ok:β->Prop} (AA:gC P fn.params.toList e ok)
  (ep: ∀b,ok b-> ∃H',(omega G S).call f ((e b).map .pv) []=V (.pv (.bool U),H'))
  {H:Type} {enc:M×Value->H} {W:World} {base:Y} {args:Array Value} {g gs:Z (DataW H)} {before:Z MemPlace}
  (VO: ∀(j:Y) t v,fn.params[j]? =V t->args[j]? =V v->Value.okWide P W .any base t v)
  (R:DataW.Whole enc P fn.params.toList s.vars N W args.toList g gs before) (D:xY.ok W/\ ∀b,xY.on b->b<W.heap.size):
  Calls P f args W λe W' => ∃v,e= .returned v/\s.post enc P fn N U N N W args v W' :=by
 have u :=R;obtain⟨p,q,E,X,rfl,hfz,hnd⟩:=R;obtain⟨Q⟩:=args;rw[d]at X;obtain⟨rfl,rfl⟩:=trodVars_none X;obtain⟨hl1,L⟩:=Vs E;obtain⟨b,b1,b2,b3⟩:=AA H enc W 0 base _ _ Q g p (λj t v n z=>VO j t v (by rw[<- N?];exact n) (by rw[<- N?];exact z)) E;obtain⟨H',hc⟩:=ep b b1;have ed:=omega_ok hm hG hF hS hc W (λ_=>⟨0,0,[]⟩) (Bn W) Q (old_inv W _ D) (by simpa using b2) (λi x v n z=>by
  simp only[Y?,gD]at n
  obtain⟨y,hy,rfl⟩:=n
  exact .pv _ _ (b3 i y v hy z))
 refine ed.mono λen W'⟨v,ι',wc,n,z,F,h4⟩=>?_;subst n;have hv:v= .bool U:=by have:=h4.nZ;cases this;rfl
 subst hv;have c: ∀k,k<W.heap.size->W'.heap[k]? =W.heap[k]? :=λk hk=>F.wV k hk λβ x l=>by cases l
 have A: ∀x∈p,x.block<W.heap.size:=λx l=>u.lt x (by simp[l]);have Ve: ∀x∈p,W.sameAt W' x:=λx l=>by cases x with|cell b o=>exact World.cell?_of_block (w:=W) (c b (A _ l))|map b=>exact c b (A _ l)
 refine⟨_,rfl,g,[],p++[],[],p,[],u, ?_, ?_, ?_, ?_,λh=>by cases h⟩;rw[D_,a H g L,r];exact trodAll_cons_mk (shut_bool B U) trodAll_mk0;rw[D_,a H g L];exact Ju hl m E Ve (λx l=>by simpa using A x l);rw[d];rw[D_,a H g L];rfl;refine⟨F.io.1,F.io.2,λi hi=>?_⟩;rw[c i hi];split<;>simp_all
end Go.Gm
namespace Go.Gm
open Go
structure Sure (b:J):Prop where
 h:b=U
inductive Fr where
 |code (c:Code)
 |upto (id:Y)
 |sG (l:Z Iq)
def cont(G:GP)(O:jb)(f:I):Z Fr->Ex×St->T (Ex×St)
 |[],x=>V x
 | .upto id::r,(.exit i,s)=>if i=id then cont G O f r (.normal,s)else cont G O f r (.exit i,s)
 | .upto _::r,(.normal,s)=>cont G O f r (.normal,s)
 | .upto _::r,(.ret,s)=>cont G O f r (.ret,s)
 | .sG l::r,(.normal,s)=>cont G O f r (.normal,Gm.sG l s)
 | .sG _::r,(.exit i,s)=>cont G O f r (.exit i,s)
 | .sG _::r,(.ret,s)=>cont G O f r (.ret,s)
 | .code c::r,(.normal,s)=>match exec G O f c s with
  |some x=>cont G O f r x
  |none=>C
 | .code _::r,(.exit i,s)=>cont G O f r (.exit i,s)
 | .code _::r,(.ret,s)=>cont G O f r (.ret,s)
def UC(G:GP)(O:jb)(f:I)(all l:Z K)(s:St)(r:Z Fr):T (Ex×St):=
 match We G O all l s with
 |some a =>cont G O f r (.normal,a)
 |none=>C
def VU(G:GP)(O:jb)(f:I)(all:Z K)(b:J)(i:Y)(l:Z K)(s:St)(a:Z (Y×Z Y×Z Y))(r:Z Fr):T (Ex×St):=
 match ig G O all b i l s a with
 |some c =>cont G O f r (.normal,c)
 |none=>C
def effX(G:GP)(O:jb)(f:I)(all l:Z K)(d:T Tmp)(E:uS)(H:qt)(r:Z Fr):T ru->T (Ex×St)
 |some (v,ws,nx)=>UC G O f all l ⟨iC d v E,zm ws H,nx⟩ r
 |none=>C
def effD(G:GP)(O:jb)(f:I)(all:Z K)(a:J)(i:Y)(l:Z K)(d:T Tmp)(E:uS)(H:qt)(rd:Z Y)(b:Z (Y×Z Y×Z Y))(r:Z Fr):T ru->T (Ex×St)
 |some (v,ws,nx)=>VU G O f all a i l ⟨iC d v E,zm (lQ a rd H ws) H,nx⟩ ((i-1,rd,(lQ a rd H ws).map (·.1))::b) r
 |none=>C
section
variable {G:GP} {O:jb} {f:I}
theorem X_one(c:Code)(s:St):exec G O f c s=cont G O f [.code c] (.normal,s):=by simp only[cont];split<;>simp_all
theorem X_nil(x:Ex×St):cont G O f [] x=V x:=rfl
theorem X_uptoN(id:Y)(r:Z Fr)(s:St):cont G O f (.upto id::r) (.normal,s)=cont G O f r (.normal,s):=rfl
theorem X_uptoR(id:Y)(r:Z Fr)(s:St):cont G O f (.upto id::r) (.ret,s)=cont G O f r (.ret,s):=rfl
theorem X_uptoE(id i:Y)(r:Z Fr)(s:St):cont G O f (.upto id::r) (.exit i,s)=if i=id then cont G O f r (.normal,s)else cont G O f r (.exit i,s):=rfl
theorem X_codeR(c:Code)(r:Z Fr)(s:St):cont G O f (.code c::r) (.ret,s)=cont G O f r (.ret,s):=rfl
theorem X_codeE(c:Code)(i:Y)(r:Z Fr)(s:St):cont G O f (.code c::r) (.exit i,s)=cont G O f r (.exit i,s):=rfl
theorem X_skip(r:Z Fr)(s:St):cont G O f (.code .skip::r) (.normal,s)=cont G O f r (.normal,s):=rfl
theorem X_ret(r:Z Fr)(s:St):cont G O f (.code .ret::r) (.normal,s)=cont G O f r (.ret,s):=rfl
theorem X_exit(i:Y)(r:Z Fr)(s:St):cont G O f (.code (.exit i)::r) (.normal,s)=cont G O f r (.exit i,s):=rfl
theorem X_seq(a b:Code)(r:Z Fr)(s:St):cont G O f (.code (.seq a b)::r) (.normal,s)=cont G O f (.code a:: .code b::r) (.normal,s):=by simp only[cont,exec];cases exec G O f a s with|none=>rfl|some x=>obtain⟨e,s'⟩:=x;cases e<;>rfl
theorem X_cond(c:Operand)(t e:Code)(r:Z Fr)(s:St):cont G O f (.code (.cond c t e)::r) (.normal,s)=match ev s.env c with
  | .pv (.bool b)=>if b=U then cont G O f (.code t::r) (.normal,s)else cont G O f (.code e::r) (.normal,s)
  |_=>C:=by
 simp only[cont,exec];cases ev s.env c with
 |pv p=>cases p with
  |bool b=>cases b<;>rfl
  |_=>rfl
 |_=>rfl
def isLoop:Code->J
 | .loop _=>U
 |_=>N
theorem Z5(id:Y)(c:Code)(r:Z Fr)(s:St)(hl:isLoop c=N):cont G O f (.code (.block id c)::r) (.normal,s)=cont G O f (.code c:: .upto id::r) (.normal,s):=by
 have hex:exec G O f (.block id c) s=match exec G O f c s with
   |some (.exit i,a)=>if i=id then V (.normal,a)else V (.exit i,a)
   |some (.normal,a)=>V (.normal,a)
   |some (.ret,a)=>V (.ret,a)
   |none=>C:=by
  cases c<;>first|rfl|(simp [isLoop]at hl)
 simp only[cont,hex];cases exec G O f c s with|none=>rfl|some x=>obtain⟨e,a⟩:=x;cases e with|exit i=>by_cases h:i=id<;>simp[cont,h]|_=>rfl
theorem X_blockS(id:Y)(a b:Code)(r:Z Fr)(s:St):cont G O f (.code (.block id (.seq a b))::r) (.normal,s)=cont G O f (.code (.seq a b):: .upto id::r) (.normal,s):=Z5 _ _ _ _ rfl
theorem X_blockB(id i:Y)(a:Code)(r:Z Fr)(s:St):cont G O f (.code (.block id (.block i a))::r) (.normal,s)=cont G O f (.code (.block i a):: .upto id::r) (.normal,s):=Z5 _ _ _ _ rfl
theorem X_blockC(id:Y)(c:Operand)(a b:Code)(r:Z Fr)(s:St):cont G O f (.code (.block id (.cond c a b))::r) (.normal,s)=cont G O f (.code (.cond c a b):: .upto id::r) (.normal,s):=Z5 _ _ _ _ rfl
theorem X_blockR(id i:Y)(a:Array K)(d:J)(r:Z Fr)(s:St):cont G O f (.code (.block id (.region i a d))::r) (.normal,s)=cont G O f (.code (.region i a d):: .upto id::r) (.normal,s):=Z5 _ _ _ _ rfl
theorem X_blockX(id i:Y)(r:Z Fr)(s:St):cont G O f (.code (.block id (.exit i))::r) (.normal,s)=cont G O f (.code (.exit i):: .upto id::r) (.normal,s):=Z5 _ _ _ _ rfl
theorem X_blockK(id:Y)(r:Z Fr)(s:St):cont G O f (.code (.block id .skip)::r) (.normal,s)=cont G O f r (.normal,s):=by rw[Z5 _ _ _ _ rfl];rfl
theorem X_blockT(id:Y)(r:Z Fr)(s:St):cont G O f (.code (.block id .ret)::r) (.normal,s)=cont G O f r (.ret,s):=by rw[Z5 _ _ _ _ rfl];rfl
def loopX(G:GP)(O:jb)(f:I)(id:Y)(r:Z Fr):T St->T (Ex×St)
 |some s=>match O.loop f id s with
  |some x=>cont G O f r x
  |none=>C
 |none=>C
theorem X_loop(id:Y)(c:Code)(r:Z Fr)(s:St):cont G O f (.code (.block id (.loop c))::r) (.normal,s)=loopX G O f id r (lE (G.spec f id) s):=by simp only[cont,exec,loopX];cases lE (G.spec f id) s with|none=>rfl|some s1=>rfl
theorem Dp(id:Y)(r:Z Fr)(s:St):loopX G O f id r (V s)=match O.loop f id s with
  |some x=>cont G O f r x
  |none=>C:=rfl
theorem enterL_0(l o p q r s):lE ⟨l,o,p,q,r,0⟩ s=V (enter ⟨l,o,p,q,r,0⟩ s):=rfl
theorem again_0(l o p q r n s):again ⟨l,o,p,q,r,0⟩ n s=narrow l n s:=rfl
theorem leave_0(l o p q r n s):leave ⟨l,o,p,q,r,0⟩ n s=V (Qe o n s):=rfl
def KT(n:Y):T St->T St
 |some a=>if a.nx=n then V a else C
 |none=>C
theorem FA(n:Y)(E H k):KT n (V ⟨E,H,k⟩)=if k=n then V ⟨E,H,k⟩else C:=rfl
theorem enterL_1(l o p q r s):lE ⟨l,o,p,q,r,1⟩ s=KT (s.nx+1) (canon l s.nx (enter ⟨l,o,p,q,r,1⟩ s)):=rfl
theorem enterL_2(l o p q r s):lE ⟨l,o,p,q,r,2⟩ s=KT (s.nx+2) (canon l s.nx (enter ⟨l,o,p,q,r,2⟩ s)):=rfl
theorem enterL_3(l o p q r s):lE ⟨l,o,p,q,r,3⟩ s=KT (s.nx+3) (canon l s.nx (enter ⟨l,o,p,q,r,3⟩ s)):=rfl
theorem enterL_4(l o p q r s):lE ⟨l,o,p,q,r,4⟩ s=KT (s.nx+4) (canon l s.nx (enter ⟨l,o,p,q,r,4⟩ s)):=rfl
theorem again_1(l o p q r n s):again ⟨l,o,p,q,r,1⟩ n s=KT n (canon l (n-1) (xR q (wv p s))):=rfl
theorem again_2(l o p q r n s):again ⟨l,o,p,q,r,2⟩ n s=KT n (canon l (n-2) (xR q (wv p s))):=rfl
theorem again_3(l o p q r n s):again ⟨l,o,p,q,r,3⟩ n s=KT n (canon l (n-3) (xR q (wv p s))):=rfl
theorem again_4(l o p q r n s):again ⟨l,o,p,q,r,4⟩ n s=KT n (canon l (n-4) (xR q (wv p s))):=rfl
theorem leave_1(l o p q r n s):leave ⟨l,o,p,q,r,1⟩ n s=canon o (n-1) s:=rfl
theorem leave_2(l o p q r n s):leave ⟨l,o,p,q,r,2⟩ n s=canon o (n-2) s:=rfl
theorem leave_3(l o p q r n s):leave ⟨l,o,p,q,r,3⟩ n s=canon o (n-3) s:=rfl
theorem leave_4(l o p q r n s):leave ⟨l,o,p,q,r,4⟩ n s=canon o (n-4) s:=rfl
def keptL(l:Z Y)(n:Y)(s:St):T St:=if n<=s.nx then V { s with env:=restrict s.env l }else C
theorem keptL_S(l:Z Y)(n E H k):keptL l n ⟨E,H,k⟩=if n<=k then V ⟨restrict E l,H,k⟩else C:=rfl
theorem Cp(l o p q r n s):again ⟨l,o,p,q,r,1000⟩ n s=keptL l n (xR q (wv p s)):=by unfold again;rw[if_pos rfl];rfl
theorem X_cmds0(r:Z Fr)(s:St):cont G O f (.sG []::r) (.normal,s)=cont G O f r (.normal,s):=rfl
theorem X_cmdsC(c:Iq)(l:Z Iq)(r:Z Fr)(s:St):cont G O f (.sG (c::l)::r) (.normal,s)=cont G O f (.sG l::r) (.normal,HM c s):=rfl
theorem X_region(id:Y)(ops:Array K)(r:Z Fr)(s:St):cont G O f (.code (.region id ops N)::r) (.normal,s)=UC G O f ops.toList ops.toList (sG (G.cmd f (2*id)) s) (.sG (G.cmd f (2*id+1))::r):=by simp only[cont,exec,UC];cases We G O ops.toList ops.toList (sG (G.cmd f (2*id)) s)<;>rfl
theorem Iw(id:Y)(ops:Array K)(r:Z Fr)(s:St):cont G O f (.code (.region id ops U)::r) (.normal,s)=VU G O f ops.toList (XC (G.pre f id)) 0 ops.toList (pres G f id (sG (G.cmd f (2*id)) s)) [] (.sG (G.cmd f (2*id+1))::r):=by simp only[cont,exec,VU];cases ig G O ops.toList (XC (G.pre f id)) 0 ops.toList (pres G f id (sG (G.cmd f (2*id)) s)) []<;>rfl
theorem pres_S(f:I)(id:Y)(E:uS)(H:qt)(nx:Y):pres G f id ⟨E,H,nx⟩=nv (ei E H (G.pre f id)) ⟨E,H,nx⟩:=rfl
theorem Y_nil(all:Z K)(s:St)(r:Z Fr):UC G O f all [] s r=cont G O f r (.normal,s):=rfl
theorem Y_op(all:Z K)(d:T Tmp)(o:Op)(g:M)(h:String)(i:Array Edge)(l:Z K)(E:uS)(H:qt)(nx:Y)(r:Z Fr):
  UC G O f all (⟨d,o,g,h,i,C⟩::l) ⟨E,H,nx⟩ r=match nv (Rp G o E) ⟨E,H,nx⟩with
   |⟨b,a,c⟩=>effX G O f all l d b a r (ry G O o b a c):=by
 simp only[UC,We,hJ,KW];generalize nv (Rp G o E) ⟨E,H,nx⟩=s;obtain⟨b,a,c⟩:=s;simp only;cases ry G O o b a c with
 |none=>rfl
 |some e=>obtain⟨v,ws,k⟩:=e;rfl
theorem Y_guard(all:Z K)(d:T Tmp)(o:Op)(a:M)(c:String)(e:Array Edge)(g:Y×J)(l:Z K)(E:uS)(H:qt)(nx:Y)(r:Z Fr):
  UC G O f all (⟨d,o,a,c,e,V g⟩::l) ⟨E,H,nx⟩ r=match hJ all ⟨d,o,a,c,e,V g⟩ E with
   |some b=>if b=U then UC G O f all (⟨d,o,a,c,e,C⟩::l) ⟨E,H,nx⟩ r else UC G O f all l ⟨iC d (.xL []) E,H,nx⟩ r
   |none=>C:=by
 simp only[UC,We];cases hJ all ⟨d,o,a,c,e,V g⟩ E with
 |none=>rfl
 |some b=>cases b<;>simp[hJ,KW]
theorem CZ(all:Z K)(d:T Tmp)(o:Op)(a:M)(c:String)(g:Array Edge)(j:Y)(w:J)(E:uS):
  hJ all ⟨d,o,a,c,g,V (j,w)⟩ E=match all[j]? with
   |some e=>match e.dst with
    |some d=>match E.get d with
     | .pv (.bool b)=>V (b==w)
     | .xL []=>V N
     |_=>C
    |none=>V N
   |none=>V N:=rfl
theorem Z_nil(all:Z K)(b:J)(i:Y)(s:St)(a:Z (Y×Z Y×Z Y))(r:Z Fr)(h:Sure (rC (ym [] all) a)):VU G O f all b i [] s a r=cont G O f r (.normal,s):=by simp only[VU,ig,h.h,if_true]
theorem Z_op(all:Z K)(b:J)(i:Y)(d:T Tmp)(o:Op)(c:M)(g:String)(h:Array Edge)(l:Z K)(E:uS)(H:qt)(nx:Y)(a:Z (Y×Z Y×Z Y))(r:Z Fr):
  VU G O f all b i (⟨d,o,c,g,h,C⟩::l) ⟨E,H,nx⟩ a r=effD G O f all b (i+1) l d E H (cn o E H) a r (ry G O o E H nx):=by simp only[VU,ig,hJ];cases ry G O o E H nx with|none=>rfl|some e=>obtain⟨v,ws,k⟩:=e;rfl
theorem Z_guard(all:Z K)(j:J)(i:Y)(d:T Tmp)(o:Op)(c:M)(e:String)(h:Array Edge)(g:Y×J)(l:Z K)(E:uS)(H:qt)(nx:Y)(a:Z (Y×Z Y×Z Y))(r:Z Fr):
  VU G O f all j i (⟨d,o,c,e,h,V g⟩::l) ⟨E,H,nx⟩ a r=match hJ all ⟨d,o,c,e,h,V g⟩ E with
   |some b=>if b=U then VU G O f all j i (⟨d,o,c,e,h,C⟩::l) ⟨E,H,nx⟩ a r else VU G O f all j (i+1) l ⟨iC d (.xL []) E,H,nx⟩ a r
   |none=>C:=by
 simp only[VU,ig];cases hJ all ⟨d,o,c,e,h,V g⟩ E with
 |none=>rfl
 |some b=>cases b<;>simp[hJ,KW]
theorem O8(all l:Z K)(d:T Tmp)(E:uS)(H:qt)(r:Z Fr)(v:AV)(ws:Z (Y×qD))(nx:Y):
  effX G O f all l d E H r (V (v,ws,nx))=UC G O f all l ⟨iC d v E,zm ws H,nx⟩ r:=rfl
theorem O7(all l:Z K)(d:T Tmp)(E:uS)(H:qt)(r:Z Fr):effX G O f all l d E H r C=C:=rfl
theorem O6(all:Z K)(i:Y)(l:Z K)(d:T Tmp)(E:uS)(H:qt)(rd:Z Y)(a:Z (Y×Z Y×Z Y))(r:Z Fr)(v:AV)(ws:Z (Y×qD))(nx:Y):
  effD G O f all N (i+1) l d E H rd a r (V (v,ws,nx))=VU G O f all N (i+1) l ⟨iC d v E,zm ws H,nx⟩ ((i,rd,ws.map (·.1))::a) r:=rfl
theorem trimOff(l:Z Y)(h:XC l=N):XC l=N:=h
theorem bool_tt:(U==U)=U:=rfl
theorem bool_ff:(N==N)=U:=rfl
theorem bool_ft:(N==U)=N:=rfl
theorem bool_tf:(U==N)=N:=rfl
def om(G:GP)(O:jb)(f:I)(id n:Y):T (Ex×St)->T (Ex×St)
 |some (.normal,a)=>match again (G.spec f id) n (nv (ei a.env a.heap (G.spec f id).freeze) a)with
  |some b =>O.loop f id b
  |none=>C
 |some (.exit i,a)=>if i=id then left .normal (leave (G.spec f id) n a)else left (.exit i) (leave (G.spec f id) n a)
 |some (.ret,a)=>left .ret (leave (G.spec f id) n a)
 |none=>C
theorem Ft(id n:Y)(s:St):om G O f id n (V (.normal,s))=match again (G.spec f id) n (nv (ei s.env s.heap (G.spec f id).freeze) s)with|some a =>O.loop f id a |none=>C:=rfl
theorem Fs(id n i:Y)(s:St):om G O f id n (V (.exit i,s))=if i=id then left .normal (leave (G.spec f id) n s)else left (.exit i) (leave (G.spec f id) n s):=rfl
theorem Fu(id n:Y)(s:St):om G O f id n (V (.ret,s))=left .ret (leave (G.spec f id) n s):=rfl
theorem left_S(ex:Ex)(s:St):left ex (V s)=V (ex,s):=rfl
theorem L_step{a:FI}(d:G.fn f=V a){id:Y}{c:Code}(b:xj a.body id=V c)(s:St):
  rK G O f id s=om G O f id s.nx (cont G O f [.code c] (.normal,s)):=by unfold rK;rw[d];simp only[b,X_one];cases cont G O f [.code c] (.normal,s)with|none=>rfl|some x=>obtain⟨e,s'⟩:=x;cases e<;>rfl
def fnE(G:GP)(f:I)(m:Y)(a:Z ResultVar)(s:St):T (AV×qt):=
 match oi G s a with
 |some b=>finish m (G.dP f) (XD b) s
 |none=>C
def GD(G:GP)(f:I)(m:Y)(a:Z ResultVar):T (Ex×St)->T (AV×qt)
 |some (.exit _,_)=>C
 |some (_,s)=>fnE G f m a (sG (G.cmd f 999999) s)
 |none=>C
theorem fnEnd_N(m:Y)(a:Z ResultVar)(s:St):GD G f m a (V (.normal,s))=fnE G f m a (sG (G.cmd f 999999) s):=rfl
theorem fnEnd_R(m:Y)(a:Z ResultVar)(s:St):GD G f m a (V (.ret,s))=fnE G f m a (sG (G.cmd f 999999) s):=rfl
theorem fnE_S(m:Y)(a:Z ResultVar)(E:uS)(H:qt)(nx:Y):fnE G f m a ⟨E,H,nx⟩=match oi G ⟨E,H,nx⟩ a with|some b=>finish m (G.dP f) (XD b) ⟨E,H,nx⟩|none=>C:=rfl
theorem F_step{a:FI}(c:G.fn f=V a){H:qt}(b:bS 0 H=U)(args:Z AV):
  Xx G O f args H=GD G f H.length a.results (cont G O f [.code a.body] (.normal,⟨dd 0 args,H,H.length⟩)):=by unfold Xx;rw[c];simp only[b,if_true,X_one];cases cont G O f [.code a.body] (.normal,⟨dd 0 args,H,H.length⟩)with|none=>rfl|some x=>obtain⟨e,s'⟩:=x;cases e<;>rfl
theorem Ea{S:rX}{nt:Y}{ob:T Code}{b:Array ResultVar}(hs:S.call f=C)(i:G.fn f=V ⟨nt,b.toList,ob.get!⟩){c:Code}(g:ob=V c){a:Z ResultVar}(d:b=⟨a⟩){H:qt}
  (e:bS 0 H=U) {args:Z AV} {r:T (AV×qt)}
  (h:GD G f H.length a (cont G (omega G S) f [.code c] (.normal,⟨dd 0 args,H,H.length⟩))=r):(omega G S).call f args H=r:=by subst g d;rw[DF hs,F_step i e];exact h
theorem Eb{S:rX}{a:FI}(d:G.fn f=V a){id:Y}{c:Code}(b:xj a.body id=V c){s:St}{r:T (Ex×St)}
  (h:om G (omega G S) f id s.nx (cont G (omega G S) f [.code c] (.normal,s))=r):(omega G S).loop f id s=r:=by rw[DG,L_step d b];exact h
end
end Go.Gm
namespace Go.Gm
open Go Go.RowKit Go.Maps
set_option maxRecDepth 10000
def R2:Z (PV×PV×Y)->T (Z Int)
 |[]=>V []
 |(.int .i64 k,_,_)::r=>match R2 r with
  |some l=>V (k::l)
  |none=>C
 |_=>C
def De(x:Int):Z Int->Z Int
 |[]=>[x]
 |y::r=>if x<=y then x::y::r else y::De x r
def sC:Z Int->Z Int
 |[]=>[]
 |x::r=>De x (sC r)
theorem Wt(x:Int): ∀l,(De x l).Perm (x::l)
 |[]=> .refl _
 |y::r=>by simp only[De];split;exact .refl _;exact((Wt x r).cons y).trans (.swap x y r)
theorem JY: ∀l,(sC l).Perm l
 |[]=> .refl _
 |x::r=>(Wt x _).trans ((JY r).cons x)
theorem AW(x:Int): ∀l,l.Pairwise (· <= ·)->(De x l).Pairwise (· <= ·)
 |[],_=>by simp[De]
 |y::r,h=>by simp only[De];rw[C?]at h;split;rename_i a;refine C?.2 ⟨λz hz=>?_,C?.2 h⟩;rcases K?.1 hz with rfl|hz;exact a;exact q05 a (h.1 z hz);rename_i a;refine C?.2 ⟨λz hz=>?_,AW x r h.2⟩;rcases K?.1 ((Wt x r).mem_iff.1 hz)with rfl|hz;omega;exact h.1 z hz
theorem Sg: ∀l,(sC l).Pairwise (· <= ·)
 |[]=> .nil
 |x::r=>AW x _ (Sg r)
theorem Sh(l d :Z Int)(h:d.Perm l):d.mergeSort (λx y=>decide (x<=y))=sC l:=by
 have g: ∀a b c:Int,decide (a<=b)=U->decide (b<=c)=U->decide (a<=c)=U:=λa b c f e=>by simp only[decide_eq_true_eq]at *; exact q05 f e
 have to: ∀a b:Int,(decide (a<=b) || decide (b<=a))=U:=λa b=>by simp only[w!,decide_eq_true_eq];exact Int.le_total a b
 refine Z.Perm.eq_of_pairwise (le:=λa b=>a<=b) (λa b _ _ f e=>Int.le_antisymm f e) ?_ (Sg l) (((Z.mergeSort_perm d _).trans h).trans (JY l).symm);have:=Z.pairwise_mergeSort g to d;exact this.imp λh=>by simpa using h
def AY(ks:Z Int)(st:Z Y)(xf:Y):J:=
 decide ks.Nodup&&ks.all (λk=>decide (-9223372036854775808<=k)&&decide (k<=9223372036854775807))&&decide st.Nodup&&st.all (λb=>decide (b<xf))&&decide (ks.length<=1099511627776)
def dM:Z (PV×PV×Y)->Z Y
 |[]=>[]
 |e::r=>e.2.2::dM r
def UY(a:I)(args:Z AV)(H:qt):T (AV×qt):=
 match args,H with
 |[.XK g [] [.ptr 0 0]],[(0,.box [.map 1]),(1,.map es xf)]=>match R2 es with
  |some ks=>if g=a/\AY ks (dM es) xf=U then V (.row 2 (sC ks).length 0 (sC ks).length,[(0,.box [.map 1]),(1,.map es xf),(2,.row (sC ks).isEmpty (xB 1 (sC ks)) ((sC ks).map λk=>[.int .i64 k]))])else C
  |none=>C
 |_,_=>C
theorem B1: ∀{es:Z (PV×PV×Y)}{ks:Z Int},R2 es=V ks->ks.length=es.length/\ ∀(i:Y)(k x:PV)(b:Y),es[i]? =V (k,x,b)-> ∃n,ks[i]? =V n/\k= .int .i64 n
 |[],ks,h=>by cases h;exact⟨rfl,z?⟩
 |(p,v,b)::r,ks,h=>by cases p with|int a k=>(cases a<;>simp only[R2]at h<;>try cases h);split at h;(rename_i l hl;cases h;obtain⟨e,d⟩:=B1 hl;refine⟨by simp[e],λi c x f hi=>?_⟩;cases i with|zero=>simp at hi;obtain⟨rfl,_⟩:=hi;exact⟨k,rfl,rfl⟩|succ i=>simpa using d i c x f (by simpa using hi));cases h|_=>simp[R2]at h
theorem Zw: ∀es,dM es=es.map (·.2.2)
 |[]=>rfl
 |e::r=>by simp[dM,Zw r]
theorem TY{H:Type}(x:Lit×DataW H): ∀l,(DataW.insert x l).Perm (x::l)
 |[]=> .refl _
 |y::r=>by simp only[DataW.insert];split;exact .refl _;exact((TY x r).cons y).trans (.swap x y r)
theorem Wu{H:Type}: ∀l:Z (Lit×DataW H),(l.foldr DataW.insert []).Perm l
 |[]=> .refl _
 |x::r=>(TY x _).trans ((Wu r).cons x)
theorem zr.below[xY]{w c :World}{H:qt}{ι:uT}{e:Y->Prop}(hi:zr w H ι e)(a:Below w.heap.size w c):
    zr c H ι (λb=>e b\/(w.heap.size<=b/\b<c.heap.size))/\yA w H ι e c H ι (λb=>e b\/(w.heap.size<=b/\b<c.heap.size)):=by
  have f:yA w H ι e c H ι (λb=>e b\/(w.heap.size<=b/\b<c.heap.size)):={
    comp:=λβ b h=>⟨b,h,ni b _⟩
    im:=λ_ h=> .inl h
    sR:=λb h=>h.elim .inl λh=> .inr (.inl h.1)
    tC:=λβ x z h hu=> .inr ⟨β,x,h,hu⟩
    wV:=λb h _=>a.block b h
    size:=a.size
    io:=⟨a.os,a.output⟩ }
  have g: ∀β b z,H.get β=V b->b.uH (ι β) z->z<w.heap.size:=λβ b z d hu=>(hi.d5 β b d).fY hu
  refine⟨⟨λβ b d=>?_,hi.inj,λb h=>?_,λβ b z d hu h=>?_,xY.go hi.TG hi.HS λb a=>f.KB hi b a,λb a=> .inl (hi.HS b a)⟩,f⟩
  · exact(hi.d5 β b d).mono hi f λhu=>⟨rfl,λx i=>a.block _ (g β b x d i)⟩
  · rcases h with h|h
    · exact G! (hi.im b h) a.size
    · exact h.2
  · rcases h with h|h
    · exact hi.Hn β b z d hu h
    · have:=g β b z d hu
      omega
theorem Sj[xY]{P:Program}{fs fk:FuncId}{kt:TypeId}(hkt:P.underlying kt=some (.int .i64))(hen:enters P fs)
  (ep: ∀(l b nn:Nat)(D0:DataW Unit)(w:World),l<w.heap.size->w.cell? ⟨l,0,none⟩=some (.map (some b))->w.ownsMap P kt (λ_=>some (.nil,[])) b nn D0->Maps.size D0<=maxLen->Maps.size D0*8<=140737488355328->
   Calls P fs #[.func (.func fk) #[] #[.pointer (some ⟨l,0,none⟩)]] w λe w' => ∃(v:Value)(ss:List Int),e= .returned v/\ss.Perm (intKeys D0)/\w'.ownsRow w.heap.size kt 1 v ss.length ((ss.mergeSort (λx y=>decide (x<=y))).map encZ)/\(v= .slice none 0 0↔ss=[])/\Below w.heap.size w w')
  {args:List AV} {H:qt} {r:AV} {H' :qt} (h:UY fk args H=some (r,H')):enters P fs/\ZY P fs args H r H' :=by
 refine⟨hen, ?_⟩;unfold UY at h;split at h
 ·rename_i g es xf;split at h
  ·rename_i ks GU;split at h
   ·rename_i hc;obtain⟨rfl,fp⟩:=hc;cases h;intro w ι Im vs hi hl ha;obtain⟨v0,rfl⟩: ∃v0,vs=[v0]:=by match vs,hl with|[v0],_=>exact⟨v0,rfl⟩
    have h0:=ha 0 _ _ rfl rfl;cases h0 with
     |XK _ _ _ va vb HW AH hA hB=>(have:va=[]:=by cases va with|nil=>rfl|cons=>simp at HW);(subst this;obtain⟨p0,rfl⟩: ∃p0,vb=[p0]:=by match vb,AH with|[p0],_=>exact⟨p0,rfl⟩);have hp:=hB 0 _ _ rfl rfl;cases hp with
     |ptr _ _ c hbox=>have Vb:=hi.d5 0 (.box [.map 1]) rfl;obtain⟨cv,elem,fz,q1,q2,q3,q4,q5⟩:=Vb;obtain⟨m0,hm0⟩: ∃m0,cv[0]? =some m0:=⟨cv[0]'(by rw[<- q3];simp),z?⟩;have hmr:=q5 0 _ _ rfl hm0;cases hmr with
     |map _ _ _ _=>
      (obtain⟨xZ,g1,g2,g3⟩:=hi.d5 1 (.map es xf) rfl;obtain⟨k1,k2⟩:=B1 GU;simp only[AY,xn,decide_eq_true_eq,List.all_eq_true]at fp;obtain⟨⟨⟨⟨f1,f2⟩,f3⟩,f4⟩,f5⟩:=fp;have hbw: ∀β b,qt.get [(0,qD.box [AV.map 1]),(1,qD.map es xf)] β=some b->b.used=true->(ι β).b<w.heap.size:=λβ b hB hu=>(hi.d5 β b hB).lt hu;have Ua: ∀(i:Nat) e,xZ[i]? =some e-> ∃n,ks[i]? =some n/\e.key=encZ n/\e.born=(dM es)[i]?.getD 0/\i<es.length:=by intro i e he;have jv:i<es.length:=g2 ▸ (qK he).1;obtain⟨pk,pv,pb,ec⟩: ∃a b c,es[i]? =some (a,b,c):=⟨es[i].1,es[i].2.1,es[i].2.2,by simp[jv]⟩;obtain⟨n,hn,rfl⟩:=k2 i _ _ _ ec;obtain⟨r1,r2,r3⟩:=g3 i _ _ _ e ec he;refine⟨n,hn, ?_,by rw[Zw];simp[ec,r3],jv⟩;have:=r1;generalize e.key=kk at this;cases this;rfl);(have hkeys:xZ.map (·.key)=ks.map encZ:=by apply List.ext_getElem?;intro i;cases he:xZ[i]? with|none=>(have h1:xZ.length<=i:=by simpa using he);have h2:ks.length<=i:=o?;simp[he,h2]|some e=>obtain⟨n,hn,hk,_⟩:=Ua i e he;simp[he,hn,hk]);(have hborn:xZ.map (·.born)=dM es:=by (apply List.ext_getElem?;intro i;have hsl:(dM es).length=es.length:=by rw[Zw];simp);cases he:xZ[i]? with|none=>(have h1:xZ.length<=i:=by simpa using he);have h2:(dM es).length<=i:=o?;simp[he,h2]|some e=>obtain⟨n,_,_,hb,jv⟩:=Ua i e he;have:i<(dM es).length:=o?;simp[he,hb,this]);(have hrd: ∀(i:Nat) e,xZ[i]? =some e-> ∃n,ks[i]? =some n/\WideElems.rd P kt (λ_=>some ((.nil:DataW Unit),[])) e=some (.int .i64 n,.nil):=by (intro i e he;obtain⟨n,hn,hk,_⟩:=Ua i e he;refine⟨n,hn, ?_⟩;obtain⟨b1,b2⟩:=f2 n (zj hn);have hw:(Lit.int .i64 n).wf=true:=by simp[Lit.wf,IntKind.min,IntKind.max,IntKind.signed,IntKind.bits];omega);simp[WideElems.rd,hk,encZ,keyOf,hkt,mapKey,hw]);let R:Value->Option (DataW Unit×List MemPlace):=λ_=>some (.nil,[]);(have hgl:(xZ.map (WideElems.rg P kt R)).map (λp=>intOf p.1)=ks:=by apply List.ext_getElem?;intro i;cases he:xZ[i]? with|none=>(have h1:xZ.length<=i:=by simpa using he);have h2:ks.length<=i:=o?;simp[he,h2]|some e=>obtain⟨n,hn,hk⟩:=hrd i e he;simp[he,hn,WideElems.rg,R,hk,intOf]);let D0:DataW Unit:= .map ((xZ.map (WideElems.rg P kt R)).foldr DataW.insert []);(have TQ:w.ownsMap P kt R (ι 1).b xZ.length D0:=by refine⟨⟨xZ⟩,xf,g1,⟨?_,⟨λx hx=>?_, ?_, ?_⟩,λx hx=>?_⟩,ke _,rfl⟩;show xZ.length<=maxLen;simp only[maxLen];omega;apply f4;rw[<- hborn];exact List.mem_map_of_mem hx;show(xZ.map (·.born)).Nodup;rw[hborn];exact f3;show(xZ.map (·.key)).Nodup;rw[hkeys];exact List.pairwise_map.2 (f1.imp λkN he=>kN (encZ_inj he));obtain⟨i,gS⟩:=kS hx;obtain⟨n,_,hr⟩:=hrd i x gS;exact⟨_,hr⟩);(have hperm:(intKeys D0).Perm ks:=by have:=(Wu (xZ.map (WideElems.rg P kt R))).map (λp=>intOf p.1);rw[hgl]at this;exact this);(have rj:Maps.size D0=ks.length:=by have:=(Wu (xZ.map (WideElems.rg P kt R))).length_eq;show((xZ.map (WideElems.rg P kt R)).foldr DataW.insert []).length=_;rw[this];simp;omega);(have U9:w.cell? ⟨(ι 0).b,0,none⟩=some (.map (some (ι 1).b)):=by simp[World.cell?,q1,hm0]);refine(ep (ι 0).b (ι 1).b xZ.length D0 w (hbw 0 _ rfl rfl) U9 TQ (by rw[rj];simp only[maxLen];omega) (by rw[rj];omega)).mono ?_;rintro e w' ⟨v,ss,rfl,hS,lH,VM,hb⟩;have Hl:=hS.trans hperm;rw[Sh ks ss Hl]at lH;obtain⟨w1,w2⟩:=lH;have hlen:(sC ks).length=ss.length:=((JY ks).trans Hl.symm).length_eq;rcases w2 with ⟨rfl,hz⟩|⟨g0,cap,cur,rfl,c1,c2,c3,c4,c5,c6⟩;have e2:sC ks=[]:=List.length_eq_zero_iff.1 o?;rw[e2];obtain⟨hI,hE⟩:=zr.put (VN:=Rq rfl) hi (w' :=w') 2 (.row true 0 []) ⟨0,0,[]⟩ (λx hx=>by cases hx) ⟨hb.size,hb.os,hb.output⟩ (λb h _=>hb.block b h) (λh=>by cases h) (λ_=>rfl);refine⟨_,_,_,rfl,hI,hE, ?_⟩;exact .row 2 0 0 0 _ (.row true 0 []) rfl rfl (λ_=>⟨_,_,_,rfl⟩) (λ_ _ _ e=>by cases e;exact ke _) (λ_ _ _ e _=>by cases e;exact⟨ke _,rfl⟩);(have kN:ss≠[]:=λe=>by have:=VM.2 e;cases this);(have e1:(sC ks).isEmpty=false:=by cases hs:sC ks with|nil=>rw[hs]at hlen;exact absurd (List.length_eq_zero_iff.1 hlen.symm) kN|cons=>rfl);(have e2:xB 1 (sC ks)=1:=by cases hs:sC ks with|nil=>rw[hs]at hlen;exact absurd (List.length_eq_zero_iff.1 hlen.symm) kN|cons=>rfl);rw[e1,e2];have NB: ∀(i:Nat)(n:Int),(sC ks)[i]? =some n->cur[i]? =some (encZ n):=by (intro i n hn;have h1:i<(sC ks).length:=(qK hn).1;have h2:(cur.toList.take (ss.length*1))[i]? =some (encZ n):=by rw[c6];simp[hn]);rw[List.getElem?_take_of_lt o?]at h2;rw[<- Array.getElem?_toList];exact h2
      have Ub:((sC ks).map λk=>[PV.int .i64 k]).length=(sC ks).length:=List.length_map _;obtain⟨hI,hE⟩:=zr.put (VN:=Rq rfl) hi (w' :=w') 2 (.row false 1 ((sC ks).map λk=>[PV.int .i64 k])) ⟨g0,cap,[]⟩ (λx hx=>by cases hx) ⟨hb.size,hb.os,hb.output⟩ (λb h _=>hb.block b h) (λ_=> .inl c1) (λ_=>by
       refine⟨cur,kt,(0,0),by simpa using c2,wC _,by simpa using c5,o?,by rw[Ub];simpa using(by omega:(sC ks).length<=cap),λe he=>?_,λi e j p h1 h2=>?_,λi e j p h1 h2=>?_⟩
       ·obtain⟨k,_,rfl⟩:=List.mem_map.1 he
        rfl
       ·simp only[List.getElem?_map,gD]at h1
        obtain⟨n,hn,rfl⟩:=h1
        cases j with
        |zero=>simp at h2;subst h2;rfl
        |succ j=>simp at h2
       simp only[List.getElem?_map,gD]at h1
       obtain⟨n,hn,rfl⟩:=h1
       cases j with
       |zero=>
        simp at h2
        subst h2
        exact⟨encZ n,by simpa using NB i n hn,.int .i64 n⟩
       |succ j=>simp at h2)
      refine⟨_,_,_,rfl,hI,hE, ?_⟩;refine .row 2 _ 0 _ _ (.row false 1 ((sC ks).map λk=>[PV.int .i64 k])) rfl rfl (λ_=>⟨_,_,_,rfl⟩) (λ_ _ _ e=>by cases e;rw[Ub];exact ke _) (λ_ _ _ e _=>?_);cases e;refine⟨by rw[Ub];omega, ?_⟩;simp only[vH,if_false];exact⟨⟨g0,0,none⟩,by rw[hlen];simp,rfl,z?,λ_=>z?⟩
   cases h
  cases h
 cases h
end Go.Gm
namespace Go.Gm
open Go Go.RowKit Go.Sort
end Go.Gm
namespace Go.Gm
open Go
def Yk(t:M)(args:Z AV)(H:qt):T (AV×qt):=
 match args with
 |[.ptr β 0]=>match H.get β with
  |_=>C
 |_=>C
theorem FF[xY]{P:Program}{f:I}{t:M}(c:enters P f)
  (AO: ∀(b:Y)(w:World),w.cell? ⟨b,0,C⟩=V (.pointer (V ⟨b,0,C⟩))->Calls P f #[.pointer (V ⟨b,0,C⟩)] w λe a =>e= .returned (.tuple #[])/\a =w)
  (Zh: ∀(b:Y)(w:World),w.cell? ⟨b,0,C⟩=V (.pointer C)->w.shape? b=V (t,2)->w.frozen? ⟨b,0,C⟩=N->
   Calls P f #[.pointer (V ⟨b,0,C⟩)] w λe a =>e= .returned (.tuple #[])/\a =w.setCell ⟨b,0,C⟩ (.pointer (V ⟨b,0,C⟩)))
  {args:Z AV} {H:qt} {r:AV} {H' :qt} (h:Yk t args H=V (r,H')):enters P f/\ZY P f args H r H' :=by refine⟨c, ?_⟩;unfold Yk at h;split at h;rotate_left;cases h;rename_i β;split at h;cases h
end Go.Gm
