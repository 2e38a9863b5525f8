/-
  The machine, part a.
-/
import Derived.WalkKit
import GoSem.Claims
import Derived.KernelRfl
open Array renaming getElem?_append_left->G!,range->S!,ext'->D!,getElem?_eq_none->k_,length_toList->c_,getElem?_push->d_,size_append->Q_,getElem?_setIfInBounds->V_,getElem?_append_right->B_,append_assoc->M',size_empty->q0n
open Bool renaming or_eq_true->g!,not_false->q15
open Go.IntKind renaming i64->q?
open Go.Result renaming ok->R'
open Go.Sem renaming run_pure->K?,run->G_
open Go.World renaming setCell->S_,cell?->I_
open Int renaming toNat_of_nonneg->F'
open List renaming length_cons->g?,replicate->b?,mem_append->m?,getElem?_append_left->p?,map_cons->s?,getElem?_cons_zero->a?,getElem?_cons_succ->l?,getElem?_map->X?,getElem?_append_right->J?,mem_of_mem_take->W?,getElem?_take_of_lt->Y?,mem_map->N?,flatMap_cons->S?,range->E?,getElem?_toArray->I?,length_pos_iff->q!,mem_of_mem_drop->z!,nodup_append->x!,getElem?_drop->w!,nodup_cons->d!,mem_flatMap->e!,getElem?_replicate->Q!,getElem?_set->N!,getElem?_append->M!,drop_eq_nil_of_le->v_,length_map->m_,getElem?_range->f_,length_replicate->Z'
open Nat renaming succ_mul->B?,add_mul->M?,add_zero->D?,zero_add->A?,le_trans->n!,add_assoc->i!,mul_comm->X!,lt_of_lt_of_le->U!,zero_le->B!,lt_or_gt_of_ne->l_,lt_or_ge->O_,ne_of_lt->L_,div_lt_of_lt_mul->T',not_lt_zero->q14,div_add_mod->q16,reducePow->q1h,mod_lt->q1r
open Ne renaming symm->u_
open Option renaming getD_some->c!,map_some->F!
set_option linter.unusedSimpArgs false
set_option linter.unusedVariables false
theorem o?{P:Prop}(h:P:=by omega):P:=h
theorem v?{P:Prop}(h:P:=by simp;omega):P:=h
theorem z?{P:Prop}(h:P:=by simp):P:=h
theorem u?{P:Prop}(h:P:=by simp only;omega):P:=h
theorem k?{P:Prop}(h:P:=by kernel_rfl):P:=h
namespace Go.Gm
open Go
section
variable {α β:Type}
theorem qF{l:List α}{i:Nat}{a:α}(h:l[i]? =some a): ∃h:i<l.length,l[i]=a:=List.getElem?_eq_some_iff.1 h
theorem z7{l:List α}{i:Nat}{a:α}(h:l[i]? =some a):a∈l:=List.mem_of_getElem? h
theorem jv(n:Nat):n<=n:=Nat.le_refl n
theorem mulR{m n:Nat}(k:Nat)(h:m<=n):m*k<=n*k:=Nat.mul_le_mul_right k h
theorem yS{f:α->β}{x:Option α}{b:β}:x.map f=some b↔ ∃a,x=some a/\f a=b:=Option.map_eq_some_iff
theorem qS(a:α)(f:α->Option β):(some a).bind f=f a:=z?
theorem zJ{α β:Type}: @bind Option _ α β=Option.bind:=by rfl
theorem wx{l:List α}{i:Nat}(h:i<l.length):l[i]? =some l[i]:=List.getElem?_eq_getElem h
theorem kh{a:α}{l:List α}(h:a∈l): ∃i:Nat,l[i]? =some a:=List.getElem?_of_mem h
theorem kG{a b:α}:(some a=some b)=(a=b):=z?
theorem wA:(false=true)=False:=z?
theorem zQ(a b:Bool):((a&&b)=true)=(a=true/\b=true):=z?
theorem md(a:α)(w:World)(f:α->World->Result β):(R' a w).andThen f=f a w:=rfl
theorem jR(P:Program)(w:World)(x:Sem α)(f:α->Sem β):G_ P (x>>=f) w=(G_ P x w).andThen fun a w' =>G_ P (f a) w' :=Sem.run_bind P w x f
end
inductive PV where
 |bool (b:Bool)
 |int (k:IntKind) (n:Int)
 |str (s:List UInt8)
 |agg (c:List PV)
 |sl (qt:Bool) (sz:Nat) (es:List (List PV))
 |yc
 |fc
 |bP
 |i6
 |fn (f:FuncId)
 |rp (c:List PV)
 deriving Inhabited
def PV.WI:PV->Bool
 | .bool _| .int _ _| .str _| .yc| .fc| .bP| .i6| .fn _=>true
 |_=>false
inductive AV where
 |pv (p:PV)
 |ptr (β:Nat) (o:Nat)
 |uJ (β xc i o:Nat)
 |tE (c:List PV) (o:Nat)
 |row (β xc off n:Nat)
 |iW
 |map (β:Nat)
 |QX (f:FuncId) (first cap:List AV)
 |agg (c:List AV)
 |xR (l:List AV)
 |undef
 deriving Inhabited
inductive qD where
 |box (c:List AV)
 |row (qt:Bool) (sz:Nat) (es:List (List PV))
 |map (es:List (PV×PV×Nat)) (zW:Nat)
 |mz (sz:Nat) (es:List (List AV))
 |jc (qt:Bool) (eo:List Nat) (es:List PV) (l7:Option (Nat×Nat×Nat))
 |xt
 deriving Inhabited
def qD.sh:qD->Option (Bool×Nat×Nat)
 | .row qt sz es=>some (qt,sz,es.length)
 | .mz sz es=>some (false,sz,es.length)
 | .jc qt _ es _=>some (qt,1,es.length)
 |_=>none
def qD.slv:qD->Option (Bool×Nat×Nat)
 | .row qt sz es=>some (qt,sz,es.length)
 | .jc qt _ es none=>some (qt,1,es.length)
 |_=>none
def zT{α:Type}(k:Nat):List α->Nat
 |[]=>0
 |_::_=>k
def FA(qt:Bool)(sz:Nat)(es:List (List PV)):PV:= .sl qt (zT sz es) es
abbrev yo:=List (Nat×AV)
abbrev qp:=List (Nat×qD)
def yo.get:yo->Nat->AV
 |[],_=> .undef
 |(i,v)::r,n=>if i=n then v else yo.get r n
def qp.get:qp->Nat->Option qD
 |[],_=>none
 |(i,v)::r,n=>if i=n then some v else qp.get r n
def qp.put:qp->Nat->qD->qp
 |[],n,x=>[(n,x)]
 |(i,v)::r,n,x=>if i=n then(i,x)::r else(i,v)::qp.put r n x
structure St where
 env:yo
 heap:qp
 nx:Nat
 deriving Inhabited
inductive TD where
 |struct (fields:List (Nat×Nat×TypeId))
 |array (len:Nat) (elem:TypeId)
 |slice (elem:TypeId)
 |map (key elem:TypeId)
 |bool
 |int (k:IntKind)
 |string
 |ptr
 |func
 |other
 deriving Inhabited
structure TI where
 size:Nat
 bytes:Nat
 td:TD
 zero:List PV
 eq:Bool
 pe:Option TypeId:=none
 deriving Inhabited
def TI.isAgg(t:TI):Bool:=match t.td with| .struct _| .array _ _=>true|_=>false
def pvOf:Value->Option PV
 | .bool b=>some (.bool b)
 | .int k n=>some (.int k n)
 | .string s=>some (.str s.data.toList)
 | .pointer none=>some .yc
 | .slice none 0 0=>some (.sl true 0 [])
 | .map none=>some .bP
 | .nilFunc=>some .fc
 | .nilIface=>some .i6
 | .func (.func f) ⟨[]⟩ ⟨[]⟩=>some (.fn f)
 |_=>none
def i9:List Value->Option (List PV)
 |[]=>some []
 |v::r=>match pvOf v,i9 r with
  |some p,some l=>some (p::l)
  |_,_=>none
def avOf(v:Value):AV:=
 match v with
 | .agg ⟨cs⟩=>match i9 cs with|some l=> .pv (.agg l)|none=> .undef
 | .tuple ⟨[]⟩=> .xR []
 |v=>match pvOf v with|some p=> .pv p|none=> .undef
structure pA where
 XN:List Nat:=[]
 out:List Nat:=[]
 k9:List Nat:=[]
 xb:List (Nat×Nat):=[]
 freeze:List Nat:=[]
 own:Nat:=0
 deriving Inhabited
def pA.off(sp:pA):Nat:=if sp.own=1000 then 0 else sp.own
structure FI where
 nt:Nat
 results:List ResultVar
 body:Code
 deriving Inhabited
inductive Da where
 |focus (t:Nat) (is:List Nat)
 |pack (t:Nat)
 |cut (t:Nat)
 |prom (t:Nat) (eo:List Nat)
 |Gg (t:Nat)
 deriving Inhabited
structure GP where
 ti:TypeId->Option TI
 fn:FuncId->Option FI
 spec:FuncId->Nat->pA
 owned:FuncId->Bool
 sb:FuncId->Bool
 pre:FuncId->Nat->List Nat
 Gg:TypeId->Bool
 Et:TypeId->Bool
 cmd:FuncId->Nat->List Da
def ev(E:yo):Operand->AV
 | .tmp t=>E.get t
 | .const v=>avOf v
 | .global _=> .undef
 | .func f=> .pv (.fn f)
def lp:List AV->Option (List PV)
 |[]=>some []
 | .pv p::r=>match lp r with|some l=>some (p::l)|none=>none
 |_::_=>none
def Jm(c:List AV):AV:=match lp c with|some l=> .pv (.agg l)|none=> .agg c
def AV.cells:AV->List AV
 | .pv (.agg c)=>c.map .pv
 | .agg c=>c
 |v=>[v]
def PV.cells:PV->List PV
 | .agg c=>c
 |p=>[p]
def AV.Mp:AV->Bool
 | .undef| .xR _=>false
 |_=>true
def AV.slc:AV->Bool
 | .row _ _ _ _| .iW| .pv (.sl _ _ _)=>true
 |_=>false
def WB:AV->Option PV
 | .pv p=>some p
 | .iW=>some (.sl false 0 [])
 |_=>none
def vM:AV->Option Nat
 | .pv (.int _ n)=>if 0<=n then some n.toNat else none
 |_=>none
abbrev mA:=AV×List (Nat×qD)×Nat
def Es(ti:TI)(c:List AV):Option AV:=
 if ti.isAgg then(if ti.size<=c.length then some (Jm (c.take ti.size))else none)
 else match c with|x::_=>some x|[]=>none
def ldP(ti:TI)(c:List PV):Option AV:=
 if ti.isAgg then(if ti.size<=c.length then some (.pv (.agg (c.take ti.size)))else none)
 else match c with|x::_=>some (.pv x)|[]=>none
def QC(ti:TI)(a:AV)(H:qp):Option AV:=
 match a with
 | .ptr β o=>match H.get β with
  |some (.box c)=>Es ti (c.drop o)
  |_=>none
 | .uJ β xc i o=>match H.get β with
  |some (.row false _ es)=>if xc=es.length then match es[i]? with|some e=>ldP ti (e.drop o)|none=>none else none
  |some (.mz _ es)=>if xc=es.length then match es[i]? with|some e=>Es ti (e.drop o)|none=>none else none
  |some (.jc false _ es (some (j,γ,fv)))=>if xc=es.length/\o=0/\j=i then Es ti [.row γ fv 0 fv]else none
  |_=>none
 | .tE c o=>ldP ti (c.drop o)
 | .pv (.rp c)=>ldP ti c
 |_=>none
def Zm(sz β xc i o size:Nat)(vs:List AV)(es:List (List AV)):Option (List (Nat×qD)):=none
def UM:Option (Nat×Nat×Nat)->Nat->Bool
 |some x,i=>decide (x.1=i)
 |none,_=>true
def XY(β xc i o size:Nat)(v:AV)(ds:List Nat)(es:List PV)(l7:Option (Nat×Nat×Nat)):Option (List (Nat×qD)):=
 match v with
 | .row γ fv 0 n=>if xc=es.length/\i<es.length/\o=0/\size=1/\n=fv/\UM l7 i=true then some [(β,.jc false ds es (some (i,γ,fv)))]else none
 |_=>none
def o6(ti:TI)(a v:AV)(H:qp):Option (List (Nat×qD)):=
 if v.Mp=true/\v.cells.length=ti.size then
  match a with
  | .ptr β o=>match H.get β with
   |some (.box c)=>if o+ti.size<=c.length then some [(β,.box (c.take o++v.cells++c.drop (o+ti.size)))]else none
   |_=>none
  | .uJ β xc i o=>match lp v.cells with
   |some ps=>match H.get β with
    |some (.row false sz es)=>
     if xc=es.length then match es[i]? with
      |some e=>if o+ti.size<=e.length then some [(β,.row false sz (es.set i (e.take o++ps++e.drop (o+ti.size))))]else none
      |none=>none
     else none
    |some (.mz sz es)=>Zm sz β xc i o ti.size v.cells es
    |_=>none
   |none=>match H.get β with
    |some (.mz sz es)=>Zm sz β xc i o ti.size v.cells es
    |some (.jc false ds es l7)=>XY β xc i o ti.size v ds es l7
    |_=>none
  |_=>none
 else none
def lD(qZ:Nat->Option (Nat×Nat))(ρ:Operand->AV):List (Nat×Operand)->List AV->Option (List AV)
 |[],c=>some c
 |(i,x)::r,c=>
  match qZ i with
  |some (off,size)=>
   if(ρ x).Mp=true/\(ρ x).cells.length=size/\off+size<=c.length then
    lD qZ ρ r (c.take off++(ρ x).cells++c.drop (off+size))
   else none
  |none=>none
def lB(fs:List (Nat×Nat×TypeId))(i:Nat):Option (Nat×Nat):=match fs[i]? with|some (o,s,_)=>some (o,s)|none=>none
def Kp(ti:TI)(iV:TypeId->Option TI)(ρ:Operand->AV)(parts:List (Nat×Operand)):Option AV:=
 match ti.td with
 | .struct fs=>match lD (lB fs) ρ parts (ti.zero.map .pv)with|some c=>some (Jm c)|none=>none
 | .array _ e=>match iV e with
  |some te=>match lD (fun i=>some (i*te.size,te.size)) ρ parts (ti.zero.map .pv)with|some c=>some (Jm c)|none=>none
  |none=>none
 |_=>none
def rB(size:Nat)(ρ:Operand->AV):List (Nat×Operand)->List (List PV)->Option (List (List PV))
 |[],es=>some es
 |(i,x)::r,es=>
  match WB (ρ x)with
  |some p=>if p.cells.length=size/\i<es.length then rB size ρ r (es.set i p.cells)else none
  |none=>none
def pQ(size:Nat)(ρ:Operand->AV):List (Nat×Operand)->List (List AV)->Option (List (List AV))
 |[],es=>some es
 |(i,x)::r,es=>if(ρ x).Mp=true/\(ρ x).cells.length=size/\i<es.length then pQ size ρ r (es.set i (ρ x).cells)else none
def yH(v:AV)(H:qp):Option (Nat×List (List PV)):=
 match v with
 | .pv (.sl _ sz es)=>some (sz,es)
 | .iW=>some (0,[])
 | .row β xc off n=>match H.get β with
  |some (.row _ sz es)=>if xc=es.length then some (sz,(es.drop off).take n)else none
  |_=>none
 | .pv (.str s)=>some (1,s.map fun b=>[.int .u8 b.toNat])
 |_=>none
def qg(zz bytes:Nat):Bool:=decide (zz*bytes<=2^46)&&decide (zz<=2^46)&&decide (bytes<=2^20)
def jV(te:TI)(s:AV)(src:List (List PV))(γ nx fg:Nat):Option mA:=
 match src with
 |[]=>some (s,[],nx)
 |_::_=>if qg src.length te.bytes=true then some (.row γ src.length 0 src.length,[(γ,.row false te.size src)],fg)else none
def Q1(v:AV)(H:qp):Option (Nat×List (List AV)):=
 match v with
 | .row β xc off n=>match H.get β with
  |some (.mz sz es)=>if xc=es.length then some (sz,(es.drop off).take n)else none
  |_=>none
 |_=>none
def freshA(te:TI)(src:List (List AV))(γ fg:Nat):Option mA:=
 match src with
 |[]=>none
 |_::_=>if qg src.length te.bytes=true then some (.row γ src.length 0 src.length,[(γ,.mz te.size src)],fg)else none
def mE(te:TI)(s x:AV)(H:qp)(nx:Nat):Option mA:=none
def uU(te:TI)(s x:AV)(H:qp)(nx:Nat):Option mA:=
 match yH x H with
 |none=>mE te s x H nx
 |some (rn,src)=>
  if(rn=te.size\/src=[])/\0<te.size then
   match s with
   | .pv (.sl true _ _)=>jV te s src nx nx (nx+1)
   | .iW=>jV te s src nx nx (nx+1)
   | .row β xc off n=>match H.get β with
    |some (.row true _ es)=>if xc=es.length/\off=0/\n=0 then jV te s src β nx nx else none
    |some (.row false sz es)=>
     if xc=es.length/\sz=te.size/\off=0/\qg (n+src.length) te.bytes=true then
      if n=es.length then some (.row β (es++src).length 0 (es++src).length,[(β,.row false te.size (es++src))],nx)
      else some (.row β (es.take n++src++es.drop (n+src.length)).length 0 (n+src.length),[(β,.row false te.size (es.take n++src++es.drop (n+src.length)))],nx)
     else none
    |_=>none
   |_=>none
  else none
def nK(te:TI)(s x:AV)(H:qp)(nx:Nat):Option mA:=
 match Q1 x H with
 |some (rn,[[.row γ fv 0 fn]])=>match s with
  | .row β xc off n=>match H.get β with
   |some (.jc qt ds es none)=>if xc=es.length/\off=0/\n=es.length/\rn=te.size/\te.size=1/\fn=fv/\qg (n+1) te.bytes=true then
     some (.row β (es.length+1) 0 (es.length+1),[(β,.jc false ds (es++[.sl true 0 []]) (some (es.length,γ,fv)))],nx)else none
   |_=>none
  |_=>none
 |_=>none
def ph:List (List PV)->Option (List UInt8)
 |[]=>some []
 |[.int .u8 n]::r=>match ph r with|some l=>some (UInt8.ofNat n.toNat::l)|none=>none
 |_=>none
def gZ(e:TypeId)(te:TI)(s x:AV)(H:qp)(nx:Nat):Option mA:=none
def tu(x:AV)(H:qp)(nx:Nat):Option mA:=none
def gv(el:TypeId)(p x:AV)(H:qp)(nx:Nat):Option mA:=none
def ZB(te:TI)(d x:AV)(H:qp)(nx:Nat):Option mA:=
 match yH x H with
 |none=>none
 |some (rn,src)=>match d with
  | .row β xc off n=>match H.get β with
   |some (.row false sz es)=>
    if xc=es.length/\sz=te.size/\(rn=te.size\/src=[])then
     some (.pv (.int .i64 ((src.take n).length:Nat)),[(β,.row false te.size (es.take off++src.take n++es.drop (off+(src.take n).length)))],nx)
    else none
   |_=>none
  |_=>none
def tq(td:TD)(iV:TypeId->Option TI)(x i:AV)(H:qp):Option AV:=
 match vM i with
 |none=>none
 |some k=>
  match td with
  | .slice e=>match iV e with
   |none=>none
   |some te=>match x with
    | .pv (.sl _ sz es)=>if sz=te.size then match es[k]? with|some c=>some (.tE c 0)|none=>none else none
    | .row β xc off n=>match H.get β with
     |some (.row false sz es)=>if xc=es.length/\sz=te.size/\k<n then some (.uJ β xc (off+k) 0)else none
     |some (.mz sz es)=>if xc=es.length/\sz=te.size/\k<n then some (.uJ β xc (off+k) 0)else none
     |some (.jc false _ es _)=>if xc=es.length/\te.size=1/\k<n then some (.uJ β xc (off+k) 0)else none
     |_=>none
    |_=>none
  | .array len e=>match iV e with
   |none=>none
   |some te=>if k<len then match x with
    | .ptr β o=>some (.ptr β (o+k*te.size))
    | .uJ β xc j o=>some (.uJ β xc j (o+k*te.size))
    | .tE c o=>some (.tE c (o+k*te.size))
    |_=>none
    else none
  |_=>none
def o5(td:TD)(x:AV)(f:Nat):Option AV:=
 match td with
 | .struct fs=>match fs[f]? with
  |some (o',s,_)=>if 0<s then match x with
   | .ptr β o=>some (.ptr β (o+o'))
   | .uJ β xc j o=>some (.uJ β xc j (o+o'))
   | .tE c o=>some (.tE c (o+o'))
   | .pv (.rp c)=>some (.tE c o')
   |_=>none
   else none
  |none=>none
 |_=>none
def B9(ti:TI)(x:AV)(off:Nat):Option AV:=
 match x with
 | .pv (.agg c)=>ldP ti (c.drop off)
 | .agg c=>Es ti (c.drop off)
 |_=>none
def ki(ρ:Operand->AV)(d:Nat):Option Operand->Option Nat
 |none=>some d
 |some x=>vM (ρ x)
def ei(td:TD)(iV:TypeId->Option TI)(ρ:Operand->AV)(x:AV)(lo hi mx:Option Operand)(H:qp):Option AV:=
 if mx.isSome=true/\hi.isNone=true then none else
 match td with
 | .string=>match x with
  | .pv (.str s)=>
   if mx.isSome then none else
   match ki ρ 0 lo,ki ρ s.length hi with
   |some l,some h=>if l<=h/\h<=s.length then some (.pv (.str ((s.take h).drop l)))else none
   |_,_=>none
  |_=>none
 | .slice e=>match iV e with
  |none=>none
  |some te=>match x with
   | .pv (.sl qt sz es)=>
    match ki ρ 0 lo,ki ρ es.length hi,ki ρ es.length mx with
    |some l,some h,some m=>
     if l<=h/\h<=m/\m<=es.length/\(sz=te.size\/es=[])then
      if mx.isSome=true/\l=m/\qt=false then some .iW else some (.pv (FA qt sz ((es.take h).drop l)))
     else none
    |_,_,_=>none
   | .row β xc off n=>
    match H.get β with
    |some b=>match b.slv with
     |some (qt,sz,k)=>
      match ki ρ 0 lo,ki ρ n hi,ki ρ n mx with
      |some l,some h,some m=>
       if xc=k/\l<=h/\h<=m/\m<=n/\(sz=te.size\/qt=true)then
        if mx.isSome=true then(if qt=true then some (.row β xc off n)else if l=m then some .iW else none)
        else some (.row β xc (off+l) (h-l))
       else none
      |_,_,_=>none
     |none=>none
    |none=>none
   | .iW=>
    match ki ρ 0 lo,ki ρ 0 hi,ki ρ 0 mx with
    |some 0,some 0,some 0=>some .iW
    |_,_,_=>none
   |_=>none
 |_=>none
def k8:List UInt8->List UInt8->Bool
 |_,[]=>false
 |[],_::_=>true
 |a::x,b::y=>a<b || (a==b&&k8 x y)
def H7(op:BinOp)(k:IntKind)(a b:Int):Option PV:=
 match op with
 | .add=>some (.int k (k.wrap (a+b)))
 | .sub=>some (.int k (k.wrap (a-b)))
 | .mul=>some (.int k (k.wrap (a*b)))
 | .quo=>if b=0 then none else some (.int k (k.wrap (a.tdiv b)))
 | .rem=>if b=0 then none else some (.int k (a.tmod b))
 | .eql=>some (.bool (a==b))
 | .neq=>some (.bool (a != b))
 | .lss=>some (.bool (decide (a<b)))
 | .leq=>some (.bool (decide (a<=b)))
 | .gtr=>some (.bool (decide (a>b)))
 | .geq=>some (.bool (decide (a>=b)))
 | .and=>some (.int k (k.wrap (BitVec.ofInt k.bits a &&& BitVec.ofInt k.bits b).toNat))
 | .or=>some (.int k (k.wrap (BitVec.ofInt k.bits a ||| BitVec.ofInt k.bits b).toNat))
 | .xor=>some (.int k (k.wrap (BitVec.ofInt k.bits a ^^^ BitVec.ofInt k.bits b).toNat))
 | .andNot=>some (.int k (k.wrap (BitVec.ofInt k.bits a &&& ~~~BitVec.ofInt k.bits b).toNat))
 |_=>none
def G0(op:BinOp)(a b:List UInt8):Option PV:=
 match op with
 | .add=>if a.length+b.length<=2^62 then some (.str (a++b))else none
 | .eql=>some (.bool (a==b))
 | .neq=>some (.bool (!(a==b)))
 | .lss=>some (.bool (k8 a b))
 | .leq=>some (.bool (k8 a b || a==b))
 | .gtr=>some (.bool (!(k8 a b || a==b)))
 | .geq=>some (.bool (!k8 a b))
 |_=>none
def uX:List PV->List PV->Option Bool
 |[],[]=>some true
 | .int k a::r,.int k' b::r' =>if k=k' then match uX r r' with|some t=>some (a==b&&t)|none=>none else none
 | .str a::r,.str b::r' =>match uX r r' with|some t=>some (a==b&&t)|none=>none
 | .bool a::r,.bool b::r' =>match uX r r' with|some t=>some (a==b&&t)|none=>none
 |_,_=>none
def dc(td:TD)(v:AV)(H:qp):Option Bool:=
 match td with
 | .ptr=>match v with
  | .pv .yc=>some true
  | .ptr _ _| .tE _ _| .uJ _ _ _ _| .pv (.rp _)=>some false
  |_=>none
 | .slice _=>match v with
  | .pv (.sl b _ _)=>some b
  | .iW=>some false
  | .row β xc _ _=>match H.get β with
   |some (.row b _ es)=>if xc=es.length then some b else none
   |_=>none
  |_=>none
 | .map _ _=>match v with
  | .pv .bP=>some true
  | .map _=>some false
  |_=>none
 | .func=>match v with
  | .pv .fc=>some true
  | .pv (.fn _)| .QX _ _ _=>some false
  |_=>none
 |_=>none
def Wg(td:TD)(v:AV):Bool:=
 match td,v with
 | .ptr,.pv .yc=>true
 | .slice _,.pv (.sl true _ _)=>true
 | .map _ _,.pv .bP=>true
 | .func,.pv .fc=>true
 |_,_=>false
def jL:TD->PV->Bool
 | .int _,.int _ _| .string,.str _| .bool,.bool _=>true
 |_,_=>false
def aK(iV:TypeId->Option TI):List (Nat×Nat×TypeId)->List PV->Bool
 |[],[]=>true
 |(_,_,t)::r,p::l=>(match iV t with|some ti=>jL ti.td p|none=>false)&&aK iV r l
 |_,_=>false
def BF(iV:TypeId->Option TI)(ti:TI)(a:List PV):Bool:=
 match ti.td with
 | .struct fs=>if ti.size<=a.length then ti.eq&&aK iV fs (a.take ti.size)else false
 |td=>jL td (a.headD .yc)
def UH(iV:TypeId->Option TI):List (Nat×Nat×TypeId)->List PV->Bool
 |[],[]=>true
 |[],_::_=>false
 |(_,_,t)::r,a=>match iV t with
  |some ti=>BF iV ti a&&UH iV r (a.drop ti.size)
  |none=>false
def aEq(iV:TypeId->Option TI)(ti:TI)(x y:AV)(H:qp):Option Bool:=
 match ti.td with
 | .bool=>match x,y with
  | .pv (.bool a),.pv (.bool b)=>some (a==b)
  |_,_=>none
 | .struct fs=>match x,y with
  | .pv (.agg a),.pv (.agg b)=>if ti.eq=true/\aK iV fs a=true then uX a b else none
  |_,_=>none
 |td=>if Wg td y=true then dc td x H else if Wg td x=true then dc td y H else none
def Pe(iV:TypeId->Option TI)(op:BinOp)(ti:TI)(x y:AV)(H:qp):Option PV:=
 match op with
 | .shl=>match x,y with
  | .pv (.int k a),.pv (.int _ b)=>if 0<=b then some (.int k (k.wrap (a*2^(min b.toNat k.bits))))else none
  |_,_=>none
 | .shr=>match x,y with
  | .pv (.int k a),.pv (.int _ b)=>if 0<=b then some (.int k (a.fdiv (2^(min b.toNat k.bits))))else none
  |_,_=>none
 |op=>match x,y with
  | .pv (.int k a),.pv (.int k' b)=>if k=k' then H7 op k a b else none
  | .pv (.str a),.pv (.str b)=>G0 op a b
  |x,y=>match op with
   | .eql=>match aEq iV ti x y H with|some t=>some (.bool t)|none=>none
   | .neq=>match aEq iV ti x y H with|some t=>some (.bool (!t))|none=>none
   |_=>none
def ZU:TD->AV->Bool
 | .string,.pv (.str _)=>true
 | .slice _,.pv (.sl _ _ _)=>true
 | .slice _,.row _ _ _ _=>true
 | .slice _,.iW=>true
 | .map _ _,.pv .bP=>true
 | .map _ _,.map _=>true
 |_,_=>false
def aUn(op:UnOp)(x:AV):Option PV:=
 match op,x with
 | .not,.pv (.bool b)=>some (.bool !b)
 | .neg,.pv (.int k n)=>some (.int k (k.wrap (0-n)))
 |_,_=>none
def ry(src dst:TD)(dte:TypeId->Option TI)(x:AV)(H:qp)(nx:Nat):Option mA:=
 match src,dst,x with
 |_,.int k,.pv (.int _ n)=>some (.pv (.int k (k.wrap n)),[],nx)
 |_,.string,.pv (.str s)=>some (.pv (.str s),[],nx)
 | .slice e,.string,x=>match dte e with
  |some te=>match te.td with
   | .int .u8=>match yH x H with
    |some (rn,es)=>if rn=1\/es=[]then match ph es with|some l=>some (.pv (.str l),[],nx)|none=>none else none
    |none=>none
   |_=>none
  |none=>none
 |_,.slice e,.pv (.str s)=>match dte e with
  |some te=>match te.td with
   | .int .u8=>some (.row nx s.length 0 s.length,[(nx,.row false 1 (s.map fun b=>[.int .u8 b.toNat]))],nx+1)
   |_=>none
  |none=>none
 |_,_,_=>none
def SH:PV->PV->Option Bool
 | .int k a,.int k' b=>if k=k' then some (a==b)else none
 | .str a,.str b=>some (a==b)
 | .bool a,.bool b=>some (a==b)
 |_,_=>none
def findKey(k:PV):List (PV×PV×Nat)->Nat->Option (Option (Nat×PV×Nat))
 |[],_=>some none
 |(x,v,born)::r,i=>match SH k x with
  |some true=>some (some (i,v,born))
  |some false=>findKey k r (i+1)
  |none=>none
def WC(t:TI):PV:=if t.isAgg then .agg t.zero else t.zero.headD .yc
def Kv(m:AV)(k:PV)(H:qp):Option (Option (Nat×PV×Nat)):=
 match m with
 | .pv .bP=>some none
 | .map β=>match H.get β with
  |some (.map es _)=>findKey k es 0
  |_=>none
 |_=>none
def aF(tk te:TI)(m k:AV)(ok:Bool)(H:qp):Option AV:=
 match k with
 | .pv k=>if jL tk.td k then match Kv m k H with
  |some (some (_,v,_))=>some (if ok then .xR [.pv v,.pv (.bool true)]else .pv v)
  |some none=>some (if ok then .xR [.pv (WC te),.pv (.bool false)]else .pv (WC te))
  |none=>none
  else none
 |_=>none
def ll(tk te:TI)(m k:AV)(ok:Bool)(H:qp):Option AV:=none
def dU(tk:TI)(m k v:AV)(H:qp):Option (List (Nat×qD)):=none
def rz(tk:TI)(m k:AV)(v:PV)(H:qp):Option (List (Nat×qD)):=
 match m,k with
 | .map β,.pv k=>if jL tk.td k then match H.get β with
  |some (.map es zW)=>match findKey k es 0 with
   |some (some (i,_,born))=>some [(β,.map (es.set i (k,v,born)) zW)]
   |some none=>some [(β,.map (es++[(k,v,zW)]) (zW+1))]
   |none=>none
  |_=>none
  else none
 |_,_=>none
def lk(tk te:TI)(m k:AV)(H:qp):Option (AV×List (Nat×qD)):=none
def bD(m st:AV)(v:PV)(H:qp):Option (List (Nat×qD)):=none
def sV(tk:TI)(m k:AV)(H:qp):Option (List (Nat×qD)):=
 match m,k with
 | .pv .bP,.pv k=>if jL tk.td k then some []else none
 | .map β,.pv k=>if jL tk.td k then match H.get β with
  |some (.map es zW)=>match findKey k es 0 with
   |some (some (i,_,_))=>some [(β,.map (es.eraseIdx i) zW)]
   |some none=>some [(β,.map es zW)]
   |none=>none
  |_=>none
  else none
 |_,_=>none
def B4(x:AV)(H:qp):Option Nat:=
 match x with
 | .pv (.str s)=>some s.length
 | .pv (.sl _ _ es)=>some es.length
 | .pv .bP=>some 0
 | .iW=>some 0
 | .row β xc _ n=>match H.get β with
  |some (.row _ _ es)=>if xc=es.length then some n else none
  |some (.mz _ es)=>if xc=es.length then some n else none
  |some (.jc _ _ es _)=>if xc=es.length then some n else none
  |_=>none
 | .map β=>match H.get β with
  |some (.map es _)=>some es.length
  |_=>none
 |_=>none
def oA(isMax:Bool)(k:IntKind):Int->List AV->Option PV
 |a,[]=>some (.int k a)
 |a,.pv (.int _ b)::r=>oA isMax k (if isMax then(if b>a then b else a)else(if b<a then b else a)) r
 |_,_=>none
def IV(isMax:Bool):List AV->Option PV
 | .pv (.int k a)::r=>oA isMax k a r
 |[.pv (.str a),.pv (.str b)]=>if isMax=true then some (.str (if k8 a b=true then b else a))else none
 |_=>none
def sr(td:TD)(iV:TypeId->Option TI)(l c:AV)(nx:Nat):Option mA:=
 match td with
 | .slice e=>match iV e,vM l,vM c with
  |some te,some n,some n' =>
   if n' =n/\0<te.size/\qg n te.bytes=true then some (.row nx (b? n te.zero).length 0 (b? n te.zero).length,[(nx,.row false te.size (b? n te.zero))],nx+1)else none
  |_,_,_=>none
 |_=>none
def AV.refs:AV->List Nat
 | .ptr β _| .uJ β _ _ _| .row β _ _ _| .map β=>[β]
 | .agg c=>pH c
 | .xR c=>pH c
 | .QX _ a b=>pH a++pH b
 |_=>[]
where pH:List AV->List Nat
 |[]=>[]
 |v::r=>v.refs++pH r
def AV.rows:AV->List Nat
 | .row β _ _ _=>[β]
 | .agg c=>QN c
 | .xR c=>QN c
 |_=>[]
where QN:List AV->List Nat
 |[]=>[]
 |v::r=>v.rows++QN r
def AV.yy(β:Nat)(qt:Bool)(sz:Nat)(es:List (List PV)):AV->AV
 | .row β' xc off n=>if β' =β/\xc=es.length then .pv (FA qt sz ((es.drop off).take n))else .row β' xc off n
 | .agg c=>Jm (rf c)
 | .xR c=> .xR (rf c)
 | .QX f a b=> .QX f (rf a) (rf b)
 |v=>v
where rf:List AV->List AV
 |[]=>[]
 |v::r=>AV.yy β qt sz es v::rf r
def qD.yy(β:Nat)(qt:Bool)(sz:Nat)(es:List (List PV)):qD->qD
 | .box c=> .box (AV.yy.rf β qt sz es c)
 | .mz RG oi=> .mz RG (oi.map (AV.yy.rf β qt sz es))
 |b=>b
def freeze(β:Nat)(s:St):St:=
 match s.heap.get β with
 |some (.row qt sz es)=>
  { s with env:=s.env.map (fun (t,v)=>(t,v.yy β qt sz es)),heap:=qp.put (s.heap.map fun(i,b)=>(i,b.yy β qt sz es)) β .xt }
 |some (.jc qt _ es none)=>
  { s with env:=s.env.map (fun (t,v)=>(t,v.yy β qt 1 (es.map fun p=>[p]))),heap:=qp.put (s.heap.map fun(i,b)=>(i,b.yy β qt 1 (es.map fun p=>[p]))) β .xt }
 |_=>s
def uW:List Nat->St->St
 |[],s=>s
 |β::r,s=>uW r (freeze β s)
def cd(es:List (List PV)):Bool:=es.all fun e=>e.all PV.WI
def UK(qt:Bool)(d:Nat)(ds:List Nat)(es:List (List PV)):Option qD:=
 match ds with
 |[]=>some (.row qt d es)
 |_::_=>if d=1 then some (.jc qt ds es.flatten none)else none
def UN(H:qp)(nx β i:Nat):Option (qp×Nat×Nat):=
 match H.get β with
 |some (.jc false eo es none)=>match eo with
  |d::ds=>match es[i]? with
   |some (.sl qt _ oi)=>match UK qt d ds oi with
    |some b=>some (qp.put (qp.put H β (.jc false (d::ds) es (some (i,nx,oi.length)))) nx b,nx+1,nx)
    |none=>none
   |_=>none
  |[]=>none
 |some (.jc false _ _ (some x))=>if x.1=i then some (H,nx,x.2.1)else none
 |_=>none
def du(H:qp)(nx β:Nat):List Nat->qp×Nat
 |[]=>(H,nx)
 |i::r=>match UN H nx β i with
  |some (H',fg,γ)=>du H' fg γ r
  |none=>(H,nx)
def X3(d:Nat)(ds:List Nat)(xc:Nat):qD->Option PV
 | .row qt sz es=>match ds with
  |[]=>if xc=es.length/\(qt=true\/sz=d)/\cd es=true then some (.sl qt (zT d es) es)else none
  |_::_=>none
 | .jc qt Sa es none=>match ds with
  |[]=>none
  |_::_=>if Sa=ds/\d=1/\xc=es.length then some (.sl qt (zT d (es.map fun p=>[p])) (es.map fun p=>[p]))else none
 |_=>none
def YK(H:qp)(β:Nat):qp:=
 match H.get β with
 |some (.jc false (d::ds) es (some (i,γ,xc)))=>match H.get γ with
  |some b=>match X3 d ds xc b with
   |some p=>qp.put (qp.put H β (.jc false (d::ds) (es.set i p) none)) γ .xt
   |none=>H
  |none=>H
 |_=>H
def Wy:Nat->qp->Nat->qp
 |0,H,_=>H
 |n+1,H,β=>match H.get β with
  |some (.jc _ _ _ (some x))=>YK (Wy n H x.2.1) β
  |_=>H
def bx(s:St)(t:Nat):AV:=
 if t<1000 then s.env.get t else match s.env.get (t % 1000)with
  | .ptr β o=>match s.heap.get β with
   |some (.box c)=>match c[o+(t / 1000-1)]? with|some v=>v|none=> .undef
   |_=> .undef
  |_=> .undef
def Rv(s:St):List Nat->Option (List Nat)
 |[]=>some []
 |t::r=>match vM (bx s t),Rv s r with
  |some n,some l=>some (n::l)
  |_,_=>none
def Qn(s:St)(t:Nat)(v:AV):St:=
 if t<1000 then{ s with env:=(t,v)::s.env }else match s.env.get (t % 1000)with
  | .ptr β o=>match s.heap.get β with
   |some (.box c)=>if o+(t / 1000-1)<c.length then{ s with heap:=qp.put s.heap β (.box (c.set (o+(t / 1000-1)) v)) }else s
   |_=>s
  |_=>s
def KM(n:Nat):qD->Option (Nat×qD)
 | .row false sz es=>if n<=es.length then some (es.length,.row false sz (es.take n))else none
 | .jc qt eo es none=>if n<=es.length then some (es.length,.jc qt eo (es.take n) none)else none
 |_=>none
def Qj:List Nat->qD
 |[]=> .row true 0 []
 |d::ds=> .jc true (d::ds) [] none
def K2(s:St):AV->List Nat
 | .ptr β _=>match s.heap.get β with
  |some (.box c)=>AV.rows.QN c
  |_=>[]
 |v=>v.rows
def Vv(c:Da)(s:St):St:=
 match c with
 | .focus t is=>match bx s t,Rv s is with
  | .row β _ 0 _,some l=>{ s with heap:=(du s.heap s.nx β l).1,nx:=(du s.heap s.nx β l).2 }
  |_,_=>s
 | .pack t=>match bx s t with
  | .row β _ _ _=>{ s with heap:=Wy 4 s.heap β }
  |_=>s
 | .cut t=>match bx s t with
  | .row β xc 0 n=>match s.heap.get β with
   |some b=>match KM n b with
    |some (l,y)=>if xc=l then Qn { s with heap:=qp.put (qp.put s.heap β .xt) s.nx y,nx:=s.nx+1 } t (.row s.nx n 0 n)else s
    |none=>s
   |none=>s
  |_=>s
 | .prom t eo=>match bx s t with
  | .pv (.sl true _ [])=>Qn { s with heap:=qp.put s.heap s.nx (Qj eo),nx:=s.nx+1 } t (.row s.nx 0 0 0)
  |_=>s
 | .Gg t=>uW (K2 s (bx s t)) s
def pL:List Da->St->St
 |[],s=>s
 |c::r,s=>pL r (Vv c s)
inductive Ex where
 |normal
 |ret
 |exit (id:Nat)
 deriving DecidableEq,Inhabited
structure xi where
 call:FuncId->List AV->qp->Option (AV×qp)
 loop:FuncId->Nat->St->Option (Ex×St)
def AV.c9(g:Nat->Nat):AV->AV
 | .ptr β o=> .ptr (g β) o
 | .uJ β v i o=> .uJ (g β) v i o
 | .row β v off n=> .row (g β) v off n
 | .map β=> .map (g β)
 | .agg c=> .agg (lX g c)
 | .xR c=> .xR (lX g c)
 | .QX f a b=> .QX f (lX g a) (lX g b)
 |v=>v
where lX (g:Nat->Nat):List AV->List AV
 |[]=>[]
 |v::r=>AV.c9 g v::lX g r
def qD.c9(g:Nat->Nat):qD->qD
 | .jc qt eo es l7=> .jc qt eo es (l7.map fun x=>(x.1,g x.2.1,x.2.2))
 | .box c=> .box (AV.c9.lX g c)
 | .mz sz es=> .mz sz (es.map (AV.c9.lX g))
 |b=>b
def qD.refs:qD->List Nat
 | .jc _ _ _ l7=>match l7 with|some x=>[x.2.1]|none=>[]
 | .box c=>AV.refs.pH c
 | .mz _ es=>es.flatMap AV.refs.pH
 |_=>[]
def pos:List Nat->Nat->Nat
 |[],_=>0
 |β::r,x=>if β=x then 0 else pos r x+1
def Wm:List Nat->Nat->Bool
 |[],_=>false
 |β::r,x=>if β=x then true else Wm r x
def G2:List Nat->List Nat->Bool
 |[],_=>true
 |x::r,L=>Wm L x&&G2 r L
def sc(H:qp)(β:Nat):qD:=match H.get β with|some b=>b|none=> .xt
def nR(H:qp):Nat->List Nat->List Nat->List Nat
 |0,_,d=>d
 |_+1,[],d=>d
 |n+1,β::r,d=>if Wm d β then nR H n r d else nR H n (r++(sc H β).refs) (d++[β])
def pP(H:qp)(L:List Nat):List Nat->Bool
 |[]=>true
 |β::r=>(match H.get β with|some b=>G2 b.refs L|none=>false)&&pP H L r
def pick(H:qp)(g:Nat->Nat):Nat->List Nat->qp
 |_,[]=>[]
 |i,β::r=>(i,(sc H β).c9 g)::pick H g (i+1) r
def s9(H:qp)(d:List Nat)(roots:List Nat):Option (List Nat×qp):=
 match roots,d with
 |[],[]=>some ([],[])
 |roots,d=>
  let L:=nR H 400 (roots++d.flatMap fun β=>(sc H β).refs) d
  if G2 roots L&&pP H L L then some (L,pick H (pos L) 0 L)else none
def z6:List (Nat×qD)->qp->qp
 |[],H=>H
 |(i,b)::r,H=>z6 r (qp.put H i b)
def j9(L:List Nat)(nx:Nat)(j:Nat):Nat:=match L[j]? with|some β=>β|none=>nx+(j-L.length)
def vV(g:Nat->Nat):qp->List (Nat×qD)
 |[]=>[]
 |(i,b)::r=>(g i,b.c9 g)::vV g r
def uM:Nat->qp->Bool
 |_,[]=>true
 |i,(j,_)::r=>decide (j=i)&&uM (i+1) r
def eM(O:xi)(f:FuncId)(args:List AV)(H:qp)(nx:Nat):Option mA:=
 match s9 H [] (AV.refs.pH args)with
 |none=>none
 |some (L,H0)=>
  match O.call f (AV.c9.lX (pos L) args) H0 with
  |none=>none
  |some (v,H')=>if uM 0 H' =true then some (v.c9 (j9 L nx),vV (j9 L nx) H',nx+(H'.length-L.length))else none
def orT:Option mA->Option mA->Option mA
 |some r,_=>some r
 |none,y=>y
def ru(G:GP)(b:Builtin)(ch:List TypeId)(args:List AV)(H:qp)(nx:Nat):Option mA:=
 match b,ch,args with
 | .len,t::_,[x]=>match G.ti t with
  |some ti=>if ZU ti.td x=true then match B4 x H with|some n=>some (.pv (.int .i64 n),[],nx)|none=>none else none
  |none=>none
 | .unsafeSliceData,_,[x]=>tu x H nx
 | .unsafeString,tp::_,[p,x]=>match G.ti tp with
  |some ti=>match ti.pe with
   |some el=>match G.ti el with|some tel=>if tel.size=1 then gv el p x H nx else none|none=>none
   |none=>none
  |none=>none
 | .max,_,l=>match IV true l with|some p=>some (.pv p,[],nx)|none=>none
 | .min,_,l=>match IV false l with|some p=>some (.pv p,[],nx)|none=>none
 | .append,ts::tx::_,[s,x]=>match G.ti ts,G.ti tx with
  |some ti,some oI=>match ti.td,oI.td with
   | .slice e,.slice _=>match G.ti e with|some te=>orT (uU te s x H nx) (orT (gZ e te s x H nx) (nK te s x H nx))|none=>none
   | .slice e,.string=>match G.ti e with|some te=>orT (uU te s x H nx) (orT (gZ e te s x H nx) (nK te s x H nx))|none=>none
   |_,_=>none
  |_,_=>none
 | .copy,ts::_,[s,x]=>match G.ti ts with
  |some ti=>match ti.td with
   | .slice e=>match G.ti e with|some te=>ZB te s x H nx|none=>none
   |_=>none
  |none=>none
 | .delete,tm::_,[m,k]=>match G.ti tm with
  |some ti=>match ti.td with
   | .map tk _=>match G.ti tk with
    |some tk=>match sV tk m k H with|some ws=>some (.xR [],ws,nx)|none=>none
    |none=>none
   |_=>none
  |none=>none
 |_,_,_=>none
def cD(G:GP)(t:TypeId):Option (TI×TI):=
 match G.ti t with
 |some ti=>match ti.td with
  | .map k e=>match G.ti k,G.ti e with
   |some tk,some te=>some (tk,te)
   |_,_=>none
  |_=>none
 |none=>none
def mw(ws:Option (List (Nat×qD)))(nx:Nat):Option mA:=match ws with|some ws=>some (.xR [],ws,nx)|none=>none
def bC(v:Option AV)(nx:Nat):Option mA:=match v with|some v=>some (v,[],nx)|none=>none
def Jr(v:Option PV)(nx:Nat):Option mA:=match v with|some v=>some (.pv v,[],nx)|none=>none
def isBytes(G:GP)(t:TypeId):Bool:=
 match G.ti t with
 |some ti=>match ti.td with
  | .slice e=>match G.ti e with
   |some te=>match te.td with
    | .int .u8=>true
    |_=>false
   |none=>false
  |_=>false
 |none=>false
def ZA(G:GP)(t:TypeId)(ti:TI)(nx:Nat):Option mA:=none
def tH(G:GP)(t:TypeId)(x:AV)(H:qp)(nx:Nat):Option mA:=none
def ln(G:GP)(t:TypeId)(m k x:AV)(H:qp)(nx:Nat):Option mA:=
 match cD G t with
 |some (tk,te)=>if x.slc=true then mw (dU tk m k x H) nx else none
 |none=>none
def aBox(Gg:Bool)(c:List AV)(nx:Nat):Option mA:=
 if Gg=true then match lp c with|some l=>some (.pv (.rp l),[],nx)|none=>none else some (.ptr nx 0,[(nx,.box c)],nx+1)
def mB(G:GP)(O:xi)(o:Op)(E:yo)(H:qp)(nx:Nat):Option mA:=
 match o with
 | .move x=>some (ev E x,[],nx)
 | .assign x=>some (ev E x,[],nx)
 | .pick c a b=>match ev E c with| .pv (.bool t)=>some (if t then ev E a else ev E b,[],nx)|_=>none
 | .alloc t=>match G.ti t with|some ti=>if G.Et t=true then ZA G t ti nx else some (.ptr nx 0,[(nx,.box (ti.zero.map .pv))],nx+1)|none=>none
 | .box t x=>if(ev E x).Mp=true then aBox (G.Gg t) (ev E x).cells nx else none
 | .build t parts=>match G.ti t with|some ti=>bC (Kp ti G.ti (ev E) parts.toList) nx|none=>none
 | .buildSlice t len parts=>match G.ti t with
  |some ti=>match ti.td with
   | .slice e=>match G.ti e with
    |some te=>if 0<te.size/\len*te.size<=2^24 then if G.Et t=true then(match pQ te.size (ev E) parts.toList (b? len (te.zero.map .pv))with
     |some es=>some (.row nx es.length 0 es.length,[(nx,.mz te.size es)],nx+1)
     |none=>none)else match rB te.size (ev E) parts.toList (b? len te.zero)with
     |some es=>some (.row nx es.length 0 es.length,[(nx,.row false te.size es)],nx+1)
     |none=>none
     else none
    |none=>none
   |_=>none
  |none=>none
 | .load t a=>match G.ti t with|some ti=>bC (QC ti (ev E a) H) nx|none=>none
 | .store t a x=>match G.ti t with|some ti=>mw (o6 ti (ev E a) (ev E x) H) nx|none=>none
 | .nilCheck x=>match ev E x with
  | .ptr β o=>some (.ptr β o,[],nx)
  | .tE c o=>some (.tE c o,[],nx)
  | .pv (.rp c)=>some (.pv (.rp c),[],nx)
  | .uJ β v i o=>some (.uJ β v i o,[],nx)
  | .pv (.fn f)=>some (.pv (.fn f),[],nx)
  | .QX f a b=>some (.QX f a b,[],nx)
  |_=>none
 | .binOp op t x y _=>match G.ti t with|some ti=>Jr (Pe G.ti op ti (ev E x) (ev E y) H) nx|none=>none
 | .unOp op _ x=>Jr (aUn op (ev E x)) nx
 | .convert s d x=>if s=d then tH G s (ev E x) H nx else match G.ti s,G.ti d with|some ts,some td=>ry ts.td td.td G.ti (ev E x) H nx|_,_=>none
 | .makeFunc (.func f) a b=>some (match a.toList,b.toList with|[],[]=> .pv (.fn f)|a,b=> .QX f (a.map (ev E)) (b.map (ev E)),[],nx)
 | .makeMap t none=>some (.map nx,[(nx,.map [] 0)],nx+1)
 | .slice t x lo hi mx=>match G.ti t with|some ti=>bC (ei ti.td G.ti (ev E) (ev E x) lo hi mx H) nx|none=>none
 | .fieldAddr t x f=>match G.ti t with|some ti=>bC (o5 ti.td (ev E x) f) nx|none=>none
 | .field t x f=>match G.ti t with
  |some ti=>match ti.td with
   | .struct fs=>match fs[f]? with
    |some (off,_,tf)=>match G.ti tf with|some tif=>bC (B9 tif (ev E x) off) nx|none=>none
    |none=>none
   |_=>none
  |none=>none
 | .indexAddr t x i=>match G.ti t with|some ti=>bC (tq ti.td G.ti (ev E x) (ev E i) H) nx|none=>none
 | .index t x i=>match G.ti t with
  |some ti=>match ti.td,ev E x,vM (ev E i)with
   | .string,.pv (.str s),some k=>match s[k]? with|some b=>some (.pv (.int .u8 b.toNat),[],nx)|none=>none
   | .array len e,x,some k=>if k<len then match G.ti e with|some te=>bC (B9 te x (k*te.size)) nx|none=>none else none
   |_,_,_=>none
  |none=>none
 | .lookup t m k ok=>match cD G t with|some (tk,te)=>bC (if G.Et t=true then ll tk te (ev E m) (ev E k) ok H else aF tk te (ev E m) (ev E k) ok H) nx|none=>none
 | .mapUpdate t m k x=>if G.Et t=true then ln G t (ev E m) (ev E k) (ev E x) H nx else match cD G t,WB (ev E x)with
  |some (tk,te),some p=>if p.cells.length=te.size then mw (rz tk (ev E m) (ev E k) p H) nx else none
  |_,_=>none
 | .insert t m k x=>match cD G t,WB (ev E x)with
  |some (tk,te),some p=>if p.cells.length=te.size then mw (rz tk (ev E m) (ev E k) p H) nx else none
  |_,_=>none
 | .mapEntry t m k=>match cD G t with
  |some (tk,te)=>match lk tk te (ev E m) (ev E k) H with|some (v,ws)=>some (v,ws,nx)|none=>none
  |none=>none
 | .entryStore _ m st x=>match WB (ev E x)with|some p=>mw (bD (ev E m) (ev E st) p H) nx|none=>none
 | .extract t i=>match ev E t with
  | .xR l=>match l[i]? with|some v=>some (v,[],nx)|none=>none
  |_=>none
 | .call { callee:= .builtin b,args,argTypes }=>ru G b argTypes.toList (args.toList.map (ev E)) H nx
 | .call { callee:= .value f,args,.. }=>match ev E f with
  | .pv (.fn f)=>eM O f (args.toList.map (ev E)) H nx
  | .QX f a b=>eM O f (a++args.toList.map (ev E)++b) H nx
  |_=>none
 | .makeSlice t l c=>match G.ti t with|some ti=>sr ti.td G.ti (ev E l) (ev E c) nx|none=>none
 |_=>none
def Nq(G:GP)(o:Op)(E:yo):List Nat:=
 match o with
 | .store _ a x=>match ev E a with| .uJ _ _ _ _=>(ev E x).rows|_=>[]
 | .buildSlice t _ parts=>if G.Et t then[]else AV.rows.QN (parts.toList.map fun x=>ev E x.2)
 | .mapUpdate _ _ _ x=>(ev E x).rows
 | .insert _ _ _ x=>(ev E x).rows
 | .entryStore _ _ _ x=>(ev E x).rows
 | .call { callee:= .value f,args,.. }=>match ev E f with
  | .pv (.fn f)=>if G.owned f then[]else AV.rows.QN (args.toList.map (ev E))
  | .QX f _ _=>if G.owned f then[]else AV.rows.QN (args.toList.map (ev E))
  |_=>[]
 |_=>[]
def yB(all:List Oper)(o:Oper)(E:yo):Option Bool:=
 match o.guard with
 |none=>some true
 |some (j,want)=>match all[j]? with
  |some oj=>match oj.dst with
   |some d=>match E.get d with
    | .pv (.bool b)=>some (b==want)
    | .xR []=>some false
    |_=>none
   |none=>some false
  |none=>some false
def fj(d:Option Tmp)(v:AV)(E:yo):yo:=match d with|some d=>(d,v)::E|none=>E
def Xf(G:GP)(O:xi)(o:Oper)(s:St):Option St:=
 match mB G O o.op s.env s.heap s.nx with
 |some (v,ws,nx)=>some { env:=fj o.dst v s.env,heap:=z6 ws s.heap,nx:=nx }
 |none=>none
def Xz(G:GP)(O:xi)(all:List Oper):List Oper->St->Option St
 |[],s=>some s
 |o::r,s=>
  match yB all o s.env with
  |some true=>match Xf G O o (uW (Nq G o.op s.env) s)with
   |some s' =>Xz G O all r s'
   |none=>none
  |some false=>Xz G O all r { s with env:=fj o.dst (.xR []) s.env }
  |none=>none
def tg(o:Op)(E:yo)(H:qp):List Nat:=
 match o with
 | .load _ a=>(ev E a).refs
 | .store _ a _=>(ev E a).refs
 | .binOp _ _ x y _=>(ev E x).refs++(ev E y).refs
 | .convert _ _ x=>(ev E x).refs
 | .slice _ x _ _ _=>(ev E x).refs
 | .indexAddr _ x _=>(ev E x).refs
 | .lookup _ m _ _=>(ev E m).refs
 | .mapUpdate _ m _ _=>(ev E m).refs
 | .insert _ m _ _=>(ev E m).refs
 | .mapEntry _ m _=>(ev E m).refs
 | .entryStore _ m _ _=>(ev E m).refs
 | .call { callee:= .builtin _,args,.. }=>AV.refs.pH (args.toList.map (ev E))
 | .call { callee:= .value f,args,.. }=>match ev E f with
  | .pv (.fn _)=>nR H 400 (AV.refs.pH (args.toList.map (ev E))) []
  | .QX _ a b=>nR H 400 (AV.refs.pH (a++args.toList.map (ev E)++b)) []
  |_=>[]
 |_=>[]
def Hd(ms:List Nat)(o:Oper):Nat:=o.after.toList.foldl (fun m e=>if Region.binds .any e=true then m ||| (1 <<< e.on) ||| ms.getD e.on 0 else m) 0
def wG(ms:List Nat):List Oper->List Nat
 |[]=>ms
 |o::r=>wG (ms++[Hd ms o]) r
def ordered(ms:List Nat)(i j:Nat):Bool:=(ms.getD j 0).testBit i
def JJ:List Nat->List Nat->Bool
 |[],_=>true
 |x::r,L=> !Wm L x&&JJ r L
def Qd(ms:List Nat)(j:Nat)(rd wr:List Nat):List (Nat×List Nat×List Nat)->Bool
 |[]=>true
 |(i,rdi,wri)::r=>(ordered ms i j || (JJ wri rd&&JJ wri wr&&JJ rdi wr))&&Qd ms j rd wr r
def mG(ms:List Nat):List (Nat×List Nat×List Nat)->Bool
 |[]=>true
 |(j,rd,wr)::r=>Qd ms j rd wr r&&mG ms r
mutual
def PV.kF:PV->PV->Bool
 | .bool a,.bool b=>a==b
 | .int k a,.int l b=>decide (k=l)&&decide (a=b)
 | .str a,.str b=>decide (a=b)
 | .agg a,.agg b=>PV.au a b
 | .sl n z a,.sl m y b=>n==m&&decide (z=y)&&PV.sT a b
 | .yc,.yc=>true
 | .fc,.fc=>true
 | .bP,.bP=>true
 | .i6,.i6=>true
 | .fn f,.fn g=>decide (f=g)
 | .rp a,.rp b=>PV.au a b
 |_,_=>false
def PV.au:List PV->List PV->Bool
 |[],[]=>true
 |x::r,y::q=>PV.kF x y&&PV.au r q
 |_,_=>false
def PV.sT:List (List PV)->List (List PV)->Bool
 |[],[]=>true
 |x::r,y::q=>PV.au x y&&PV.sT r q
 |_,_=>false
end
def AV.kF:AV->AV->Bool
 | .pv a,.pv b=>PV.kF a b
 | .ptr b o,.ptr c q=>decide (b=c)&&decide (o=q)
 | .row b v o n,.row c w q m=>decide (b=c)&&decide (v=w)&&decide (o=q)&&decide (n=m)
 | .iW,.iW=>true
 | .map b,.map c=>decide (b=c)
 |_,_=>false
def AV.au:List AV->List AV->Bool
 |[],[]=>true
 |x::r,y::q=>AV.kF x y&&AV.au r q
 |_,_=>false
def AV.sT:List (List AV)->List (List AV)->Bool
 |[],[]=>true
 |x::r,y::q=>AV.au x y&&AV.sT r q
 |_,_=>false
def qD.kF:qD->qD->Bool
 | .box a,.box b=>AV.au a b
 | .row n z a,.row m y b=>n==m&&decide (z=y)&&PV.sT a b
 | .mz z a,.mz y b=>decide (z=y)&&AV.sT a b
 | .xt,.xt=>true
 |_,_=>false
def Tk(H:qp)(β:Nat)(b:qD):Bool:=match H.get β with|some c=>qD.kF c b|none=>false
def trim(rd:List Nat):qp->List (Nat×qD)->List (Nat×qD)
 |_,[]=>[]
 |H,(β,b)::r=>if Wm rd β&&Tk H β b then trim rd H r else(β,b)::trim rd (H.put β b) r
def eH(tm:Bool)(rd:List Nat)(H:qp)(ws:List (Nat×qD)):List (Nat×qD):=match tm with|true=>trim rd H ws|false=>ws
def Q4:List Nat->Bool
 |[]=>false
 |x::r=>x==999999 || Q4 r
def dV(G:GP)(O:xi)(all:List Oper)(tm:Bool):Nat->List Oper->St->List (Nat×List Nat×List Nat)->Option St
 |_,[],s,log=>if mG (wG [] all) log=true then some s else none
 |i,o::r,s,log=>
  match yB all o s.env with
  |some true=>match mB G O o.op s.env s.heap s.nx with
   |some (v,ws,nx)=>dV G O all tm (i+1) r ⟨fj o.dst v s.env,z6 (eH tm (tg o.op s.env s.heap) s.heap ws) s.heap,nx⟩ ((i,tg o.op s.env s.heap,(eH tm (tg o.op s.env s.heap) s.heap ws).map (·.1))::log)
   |none=>none
  |some false=>dV G O all tm (i+1) r { s with env:=fj o.dst (.xR []) s.env } log
  |none=>none
def restrict(E:yo):List Nat->yo
 |[]=>[]
 |t::r=>(t,E.get t)::restrict E r
def setEnv:yo->Nat->AV->yo
 |[],n,x=>[(n,x)]
 |(i,v)::r,n,x=>if i=n then(i,x)::r else(i,v)::setEnv r n x
def k9:List Nat->St->St
 |[],s=>s
 |t::r,s=>match s.env.get t with
  | .pv (.sl true _ [])=>k9 r { env:=setEnv s.env t (.row s.nx 0 0 0),heap:=qp.put s.heap s.nx (.row true 0 []),nx:=s.nx+1 }
  |_=>k9 r s
def xb:List (Nat×Nat)->St->St
 |[],s=>s
 |(t,k)::r,s=>match s.env.get t with
  | .ptr β o=>match s.heap.get β with
   |some (.box c)=>match c[o+k]? with
    |some (.pv (.sl true _ []))=>
     xb r { env:=s.env,heap:=qp.put (qp.put s.heap s.nx (.row true 0 [])) β (.box (c.set (o+k) (.row s.nx 0 0 0))),nx:=s.nx+1 }
    |_=>xb r s
   |_=>xb r s
  |_=>xb r s
def C4(H:qp):AV->List Nat
 | .ptr β _=>match H.get β with
  |some (.box c)=>AV.rows.QN c
  |_=>[]
 |v=>v.rows
def Bm(H:qp)(k:Nat):AV->List Nat
 | .ptr β o=>match H.get β with
  |some (.box c)=>match c[o+k]? with|some v=>v.rows|none=>[]
  |_=>[]
 |_=>[]
def dh(E:yo)(H:qp):List Nat->List Nat
 |[]=>[]
 |t::r=>(if t<1000 then C4 H (E.get t)else Bm H (t / 1000-1) (E.get (t % 1000)))++dh E H r
def enter(sp:pA)(s:St):St:=
 let s1:=xb sp.xb (k9 sp.k9 s)
 let s2:=uW (dh s1.env s1.heap sp.freeze) s1
 { s2 with env:=restrict s2.env sp.XN }
def cq(n:Nat):List Nat->Bool
 |[]=>true
 |x::r=>decide (x<n)&&cq n r
def yo.below(n:Nat):yo->Bool
 |[]=>true
 |(_,v)::r=>cq n v.refs&&yo.below n r
def qp.upto(n:Nat):qp->qp
 |[]=>[]
 |(i,b)::r=>if i<n then(i,b)::qp.upto n r else qp.upto n r
def qp.below(n:Nat):qp->Bool
 |[]=>true
 |(_,b)::r=>cq n b.refs&&qp.below n r
def narrow(WN:List Nat)(n:Nat)(s:St):Option St:=
 let E:=restrict s.env WN
 let H:=qp.upto n s.heap
 if yo.below n E&&qp.below n H then some ⟨E,H,n⟩else none
def i5(WN:List Nat)(n:Nat)(s:St):St:=
 match narrow WN n s with
 |some s' =>s'
 |none=>{ s with env:=restrict s.env WN }
def Rg(g:Nat->Nat):yo->yo
 |[]=>[]
 |(t,v)::r=>(t,v.c9 g)::Rg g r
def U2:yo->List Nat
 |[]=>[]
 |(_,v)::r=>v.refs++U2 r
def canon(WN:List Nat)(n:Nat)(s:St):Option St:=
 match s9 s.heap (E? n) (U2 (restrict s.env WN))with
 |some (L,H')=>some ⟨Rg (pos L) (restrict s.env WN),H',H'.length⟩
 |none=>none
def ep(sp:pA)(s:St):Option St:=
 if sp.own=1000 then some (enter sp s)else
 match sp.own with
 |0=>some (enter sp s)
 |k+1=>match canon sp.XN s.nx (enter sp s)with
  |some s1=>if s1.nx=s.nx+(k+1)then some s1 else none
  |none=>none
def bc(sp:pA)(n:Nat)(s:St):Option St:=if n<=s.nx then some { s with env:=restrict s.env sp.XN }else none
def again(sp:pA)(n:Nat)(s' :St):Option St:=
 if sp.own=1000 then bc sp n (xb sp.xb (k9 sp.k9 s'))else
 match sp.own with
 |0=>narrow sp.XN n s'
 |k+1=>match canon sp.XN (n-(k+1)) (xb sp.xb (k9 sp.k9 s'))with
  |some s1=>if s1.nx=n then some s1 else none
  |none=>none
def leave(sp:pA)(n:Nat)(s' :St):Option St:=
 if sp.own=1000 then some { s' with env:=restrict s'.env sp.out }else
 match sp.own with
 |0=>some (i5 sp.out n s')
 |k+1=>canon sp.out (n-(k+1)) s'
def left(ex:Ex):Option St->Option (Ex×St)
 |some s=>some (ex,s)
 |none=>none
def zF:Code->Nat->Option Code
 | .seq a b,i=>match zF a i with|some c=>some c|none=>zF b i
 | .block id (.loop c),i=>if id=i then some c else zF c i
 | .block _ c,i=>zF c i
 | .cond _ a b,i=>match zF a i with|some c=>some c|none=>zF b i
 | .loop c,i=>zF c i
 |_,_=>none
def pres(G:GP)(f:FuncId)(id:Nat)(s:St):St:=uW (dh s.env s.heap (G.pre f id)) s
def exec(G:GP)(O:xi)(f:FuncId):Code->St->Option (Ex×St)
 | .skip,s=>some (.normal,s)
 | .region id ops false,s=>match Xz G O ops.toList ops.toList (pL (G.cmd f (2*id)) s)with|some s' =>some (.normal,pL (G.cmd f (2*id+1)) s')|none=>none
 | .region id ops true,s=>match dV G O ops.toList (Q4 (G.pre f id)) 0 ops.toList (pres G f id (pL (G.cmd f (2*id)) s)) []with|some s' =>some (.normal,pL (G.cmd f (2*id+1)) s')|none=>none
 | .seq a b,s=>match exec G O f a s with
  |some (.normal,s')=>exec G O f b s'
  |some (.ret,s')=>some (.ret,s')
  |some (.exit i,s')=>some (.exit i,s')
  |none=>none
 | .cond c t e,s=>match ev s.env c with
  | .pv (.bool b)=>match b with
   |true=>exec G O f t s
   |false=>exec G O f e s
  |_=>none
 | .block id (.loop _),s=>match ep (G.spec f id) s with
  |some s1=>O.loop f id s1
  |none=>none
 | .block id c,s=>match exec G O f c s with
  |some (.exit i,s')=>if i=id then some (.normal,s')else some (.exit i,s')
  |some (.normal,s')=>some (.normal,s')
  |some (.ret,s')=>some (.ret,s')
  |none=>none
 | .exit id,s=>some (.exit id,s)
 | .ret,s=>some (.ret,s)
 |_,_=>none
def mM(G:GP)(O:xi)(f:FuncId)(id:Nat)(s:St):Option (Ex×St):=
 match G.fn f with
 |none=>none
 |some fi=>match zF fi.body id with
  |none=>none
  |some c=>match exec G O f c s with
   |some (.normal,s')=>match again (G.spec f id) s.nx (uW (dh s'.env s'.heap (G.spec f id).freeze) s')with
    |some s'' =>O.loop f id s''
    |none=>none
   |some (.exit i,s')=>if i=id then left .normal (leave (G.spec f id) s.nx s')else left (.exit i) (leave (G.spec f id) s.nx s')
   |some (.ret,s')=>left .ret (leave (G.spec f id) s.nx s')
   |none=>none
def U6(G:GP)(s:St):ResultVar->Option AV
 | .tmp t=>some (s.env.get t)
 | .cell a t=>match G.ti t with|some ti=>QC ti (s.env.get a) s.heap|none=>none
def ah(G:GP)(s:St):List ResultVar->Option (List AV)
 |[]=>some []
 |r::l=>match U6 G s r,ah G s l with
  |some v,some vs=>some (v::vs)
  |_,_=>none
def Q5:List AV->AV
 |[v]=>v
 |l=> .xR l
def unz:AV->AV
 | .iW=> .pv (.sl false 0 [])
 |v=>v
def finish(m:Nat)(sb:Bool)(v:AV)(s:St):Option (AV×qp):=
 let s1:=if sb then{ s with env:=[(0,v)] }else uW v.rows { s with env:=[(0,v)] }
 let v1:=unz (s1.env.get 0)
 match s9 s1.heap (E? m) v1.refs with
 |some (L,H)=>some (v1.c9 (pos L),H)
 |none=>none
def rA:Nat->List AV->yo
 |_,[]=>[]
 |i,v::r=>(i,v)::rA (i+1) r
def lY(G:GP)(O:xi)(f:FuncId)(args:List AV)(H:qp):Option (AV×qp):=
 match G.fn f with
 |none=>none
 |some fi=>if uM 0 H=true then match exec G O f fi.body ⟨rA 0 args,H,H.length⟩with
  |some (.exit _,_)=>none
  |some (_,s)=>match ah G (pL (G.cmd f 999999) s) fi.results with
   |some vs=>finish H.length (G.sb f) (Q5 vs) (pL (G.cmd f 999999) s)
   |none=>none
  |none=>none
  else none
structure pd where
 call:FuncId->Option (List AV->qp->Option (AV×qp))
def Ww(G:GP)(S:pd):Nat->xi
 |0=>⟨fun _ _ _=>none,fun _ _ _=>none⟩
 |n+1=>⟨fun f args H=>match S.call f with|some g=>g args H|none=>lY G (Ww G S n) f args H,fun f id s=>mM G (Ww G S n) f id s⟩
set_option linter.unusedSectionVars false
def PV.kP:PV->Bool
 | .agg _=>false
 |_=>true
def AV.kP:AV->Bool
 | .pv p=>p.kP
 | .agg _| .xR _| .undef=>false
 |_=>true
def dx:Value->Bool
 | .agg _| .tuple _=>false
 |_=>true
inductive Sk where
 |leaf
 |node (b cap:Nat) (ks:List Sk)
 deriving Inhabited
structure Pl where
 b:Nat
 cap:Nat
 ks:List Sk:=[]
def Pl.kF(p q:Pl):Prop:=p.b=q.b/\p.cap=q.cap
theorem Pl.XX(p:Pl):p.kF p:=⟨rfl,rfl⟩
theorem Pl.Rr{p q r:Pl}(h1:p.kF q)(h2:q.kF r):p.kF r:=⟨h1.1.trans h2.1,h1.2.trans h2.2⟩
def Sk.blocks:Sk->List Nat
 | .leaf=>[]
 | .node b _ ks=>b::ks.flatMap Sk.blocks
abbrev yp:=Nat->Pl
def wE(fz:Nat×Nat)(n:Nat):Prop:=fz.1<=fz.2/\ ∀i,i<n-> ¬(fz.1<=i/\i<fz.2)
inductive RP (w:World) (Im:Nat->Prop):PV->Value->Prop
 |bool (b:Bool):RP w Im (.bool b) (.bool b)
 |int (k:IntKind) (n:Int):RP w Im (.int k n) (.int k n)
 |str (l:List UInt8):RP w Im (.str l) (.string ⟨⟨l⟩⟩)
 |agg (c:List PV) (vs:List Value) (hl:c.length=vs.length) (hf: ∀p∈c,p.kP=true)
   (h: ∀(i:Nat) p v,c[i]? =some p->vs[i]? =some v->RP w Im p v):RP w Im (.agg c) (.agg ⟨vs⟩)
 |aO (sz:Nat):RP w Im (.sl true sz []) (.slice none 0 0)
 |sl (sz:Nat) (es:List (List PV)) (b off cap:Nat) (vs:Nat->Value) (Qx:es≠[]->Im b) (JM:es.length<=cap)
   (mq: ∀e∈es,e.length=sz) (hc: ∀i,i<es.length*sz->w.cell? ⟨b,off+i,none⟩=some (vs i))
   (hf: ∀(i:Nat) e(j:Nat) p,es[i]? =some e->e[j]? =some p->p.kP=true)
   (h: ∀(i:Nat) e(j:Nat) p,es[i]? =some e->e[j]? =some p->RP w Im p (vs (i*sz+j)))
   (sp:Option Nat) (SA:es≠[]->sp=none):RP w Im (.sl false sz es) (.slice (some ⟨b,off,sp⟩) es.length cap)
 |yc:RP w Im .yc (.pointer none)
 |fc:RP w Im .fc .nilFunc
 |bP:RP w Im .bP (.map none)
 |i6:RP w Im .i6 .nilIface
 |fn (f:FuncId):RP w Im (.fn f) (.func (.func f) #[] #[])
 |rp (c:List PV) (b off:Nat) (vs:Nat->Value) (Qx:Im b) (hc: ∀i,i<c.length->w.cell? ⟨b,off+i,none⟩=some (vs i))
   (hf: ∀p∈c,p.kP=true) (h: ∀(i:Nat) p,c[i]? =some p->RP w Im p (vs i)):RP w Im (.rp c) (.pointer (some ⟨b,off,none⟩))
inductive oW (w:World) (Im:Nat->Prop):List Nat->PV->Value->Sk->Prop
 |WI (p:PV) (v:Value) (hs:p.WI=true) (h:RP w Im p v):oW w Im [] p v .leaf
 |nil (d:Nat) (ds:List Nat):oW w Im (d::ds) (.sl true 0 []) (.slice none 0 0) .leaf
 |sl (d:Nat) (ds:List Nat) (es:List (List PV)) (b o cap:Nat) (ks:List Sk) (vs:Array Value) (elem:TypeId) (fz:Nat×Nat) (hb:w.heap[b]? =some (.cells vs elem fz)) (hfz:wE fz vs.size)
   (En:vs.size=cap*d) (hd:0<d) (hle:es.length<=cap) (ho:0<cap->o=0) (de: ∀e∈es,e.length=d) (BS:ks.length=es.flatten.length)
   (val:Nat->Value) (JQ: ∀i,i<es.flatten.length->vs[i]? =some (val i)) (h: ∀(i:Nat) p k,es.flatten[i]? =some p->ks[i]? =some k->oW w Im ds p (val i) k):
   oW w Im (d::ds) (.sl false (zT d es) es) (.slice (some ⟨b,o,none⟩) es.length cap) (.node b cap ks)
theorem RP.mk{w:World}{Im:Nat->Prop}{b:Bool}{sz:Nat}{es:List (List PV)}{v:Value}(h:RP w Im (.sl b sz es) v):RP w Im (FA b sz es) v:=by
 cases es with
 |cons _ _=>exact h
 |nil=>cases h with
  |aO=>exact .aO 0
  |sl _ _ b off cap vs Qx JM mq hc hf hh sp SA=>exact .sl 0 [] b off cap vs (fun h=>absurd rfl h) (B! _) z? (fun i xQ=>by simp at xQ) z? z? sp (fun h=>absurd rfl h)
def qD.Lu:qD->Bool
 | .box _=>true
 |_=>false
inductive RA (w:World) (H:qp) (ι:yp) (Im:Nat->Prop):AV->Value->Prop
 |undef (v:Value):RA w H ι Im .undef v
 |pv (p:PV) (v:Value) (h:RP w Im p v):RA w H ι Im (.pv p) v
 |ptr (β o:Nat) (b:qD) (hb:H.get β=some b) (hk:b.Lu=true):RA w H ι Im (.ptr β o) (.pointer (some ⟨(ι β).b,o,none⟩))
 |uJ (β xc i o b' o' :Nat) (b:qD) (hb:H.get β=some b) (jy: ∀qt sz l,b.sh=some (qt,sz,l)->xc<=l)
   (h: ∀qt sz l,b.sh=some (qt,sz,l)->xc=l->qt=false->b' =(ι β).b/\o' =i*sz+o):
   RA w H ι Im (.uJ β xc i o) (.pointer (some ⟨b',o',none⟩))
 |row (β xc off n:Nat) (v:Value) (b:qD) (ho:dx v=true) (hb:H.get β=some b) (hk:b≠ .xt-> ∃qt sz l,b.sh=some (qt,sz,l))
   (jy: ∀qt sz l,b.sh=some (qt,sz,l)->xc<=l)
   (h: ∀qt sz l,b.sh=some (qt,sz,l)->xc=l->off+n<=l/\
    if qt=true then v= .slice none 0 0
    else ∃a,v= .slice (some a) n ((ι β).cap-off)/\a.spot=none/\a.block=(ι β).b/\(off<(ι β).cap->a.off=off*sz)):
   RA w H ι Im (.row β xc off n) v
 |tE (c:List PV) (o b off:Nat) (vs:Nat->Value) (Qx:Im b) (hc: ∀i,i<c.length->w.cell? ⟨b,off+i,none⟩=some (vs i))
   (hf: ∀p∈c,p.kP=true) (h: ∀(i:Nat) p,c[i]? =some p->RP w Im p (vs i)):
   RA w H ι Im (.tE c o) (.pointer (some ⟨b,off+o,none⟩))
 |iW (a:Addr):RA w H ι Im .iW (.slice (some a) 0 0)
 |map (β:Nat) (es:List (PV×PV×Nat)) (zW:Nat) (hb:H.get β=some (.map es zW)):RA w H ι Im (.map β) (.map (some (ι β).b))
 |QX (f:FuncId) (a b:List AV) (va vb:List Value) (VB:a.length=va.length) (Su:b.length=vb.length)
   (ha: ∀(i:Nat) x v,a[i]? =some x->va[i]? =some v->RA w H ι Im x v)
   (hb: ∀(i:Nat) x v,b[i]? =some x->vb[i]? =some v->RA w H ι Im x v):RA w H ι Im (.QX f a b) (.func (.func f) ⟨va⟩ ⟨vb⟩)
 |agg (c:List AV) (vs:List Value) (hl:c.length=vs.length) (hf: ∀x∈c,x.kP=true)
   (h: ∀(i:Nat) x v,c[i]? =some x->vs[i]? =some v->RA w H ι Im x v):RA w H ι Im (.agg c) (.agg ⟨vs⟩)
 |xR (c:List AV) (vs:List Value) (hl:c.length=vs.length)
   (h: ∀(i:Nat) x v,c[i]? =some x->vs[i]? =some v->RA w H ι Im x v):RA w H ι Im (.xR c) (.tuple ⟨vs⟩)
def qD.used:qD->Bool
 | .box _=>true
 | .row qt _ _=> !qt
 | .map _ _=>true
 | .mz _ _=>true
 | .jc qt _ _ _=> !qt
 | .xt=>false
def qD.SG:qD->Bool
 | .jc _ _ _ _=>true
 |_=>false
def qD.yb(b:qD)(p:Pl)(x:Nat):Prop:=b.used=true/\(x=p.b\/b.SG=true/\x∈p.ks.flatMap Sk.blocks)
def ro(w:World)(H:qp)(ι:yp)(Im:Nat->Prop)(β:Nat):qD->Prop
 | .box c=> ∃vs elem fz,w.heap[(ι β).b]? =some (.cells vs elem fz)/\wE fz vs.size/\c.length=vs.size/\
   (∀ x∈c,x.kP=true)/\ ∀(i:Nat) x v,c[i]? =some x->vs[i]? =some v->RA w H ι Im x v
 | .row true _ es=>es=[]
 | .row false sz es=> ∃vs elem fz,w.heap[(ι β).b]? =some (.cells vs elem fz)/\wE fz vs.size/\vs.size=(ι β).cap*sz/\0<sz/\
   es.length<=(ι β).cap/\(∀ e∈es,e.length=sz)/\(∀(i:Nat) e(j:Nat) p,es[i]? =some e->e[j]? =some p->p.kP=true)/\
   ∀(i:Nat) e(j:Nat) p,es[i]? =some e->e[j]? =some p-> ∃v,vs[i*sz+j]? =some v/\RP w Im p v
 | .map es zW=> ∃xe:List MapEntry,w.heap[(ι β).b]? =some (.map ⟨xe⟩ zW)/\es.length=xe.length/\
   ∀(i:Nat)(k x:PV)(born:Nat) e,es[i]? =some (k,x,born)->xe[i]? =some e->RP w Im k e.key/\RP w Im x e.val/\e.born=born
 | .mz sz es=> ∃vs elem fz,w.heap[(ι β).b]? =some (.cells vs elem fz)/\wE fz vs.size/\vs.size=(ι β).cap*sz/\0<sz/\
   es.length<=(ι β).cap/\(∀ e∈es,e.length=sz)/\(∀(i:Nat) e(j:Nat) x,es[i]? =some e->e[j]? =some x->x.kP=true)/\
   ∀(i:Nat) e(j:Nat) x,es[i]? =some e->e[j]? =some x-> ∃v,vs[i*sz+j]? =some v/\RA w H ι Im x v
 | .jc true _ es l7=>es=[]/\l7=none
 | .jc false ds es l7=> ∃vs elem fz,w.heap[(ι β).b]? =some (.cells vs elem fz)/\wE fz vs.size/\vs.size=(ι β).cap/\es.length<=(ι β).cap/\(ι β).ks.length=es.length/\
   ((ι β).b::(ι β).ks.flatMap Sk.blocks).Nodup/\(∀ x∈(ι β).ks.flatMap Sk.blocks,x<w.heap.size)/\(∀ j γ xc,l7=some (j,γ,xc)->j<es.length)/\
   ∀(i:Nat) p k,es[i]? =some p->(ι β).ks[i]? =some k-> ∃v,vs[i]? =some v/\
    ((∀ j γ xc,l7=some (j,γ,xc)->i≠j)->oW w Im ds p v k)/\(∀ γ xc,l7=some (i,γ,xc)->k= .leaf/\RA w H ι Im (.row γ xc 0 xc) v)
 | .xt=>True
class xd where
 ok:World->Prop
 on:Nat->Prop
 frame: ∀{w w' :World},ok w->(∀ b,on b->w'.heap[b]? =w.heap[b]?)->ok w'
instance(priority:=low) noGlobs:xd:=⟨fun _=>True,fun _=>False,fun _ _=>trivial⟩
structure zd [xd] (w:World) (H:qp) (ι:yp) (Im:Nat->Prop):Prop where
 rk: ∀β b,H.get β=some b->ro w H ι Im β b
 inj: ∀β β' b b' x,H.get β=some b->H.get β' =some b' ->b.yb (ι β) x->b'.yb (ι β') x->β=β'
 im: ∀b,Im b->b<w.heap.size
 Vd: ∀β b x,H.get β=some b->b.yb (ι β) x-> ¬Im x
 BM:xd.ok w
 Vx: ∀b,xd.on b->Im b
theorem xd.go[xd]{w w' :World}{Im:Nat->Prop}(h:xd.ok w)(h2: ∀b,xd.on b->Im b)(hk: ∀b,Im b->w'.heap[b]? =w.heap[b]?):xd.ok w' :=xd.frame h fun b hb=>hk b (h2 b hb)
def xN(x y:qD)(p q:Pl):Prop:=
 match x.sh,y.sh with
 |some (qt,sz,l),some (rF,RG,l')=>l<=l' /\(l=l' ->qt=rF/\(qt=false->sz=RG/\p.kF q))
 |some _,none=>y= .xt
 |none,some _=>False
 |none,none=>match x,y with
  | .box _,.box _=>p=q
  | .map _ _,.map _ _=>p=q
  | .xt,.xt=>True
  |_,_=>False
theorem Qe{x y:qD}{p q:Pl}{qt rF:Bool}{sz RG l l' :Nat}(hx:x.sh=some (qt,sz,l))(hy:y.sh=some (rF,RG,l')):
  xN x y p q=(l<=l' /\(l=l' ->qt=rF/\(qt=false->sz=RG/\p.kF q))):=by unfold xN;rw[hx,hy]
theorem Qf{x y:qD}{p q:Pl}(h:xN x y p q){qt:Bool}{sz l:Nat}(hy:y.sh=some (qt,sz,l)): ∃ov sz0 l0,x.sh=some (ov,sz0,l0):=by cases hx:x.sh with|some q=>exact⟨_,_,_,rfl⟩|none=>unfold xN at h;rw[hx,hy]at h;exact(h:False).elim
theorem Bu{x y:qD}{p q:Pl}(h:xN x y p q){qt:Bool}{sz l:Nat}(hx:x.sh=some (qt,sz,l)):y= .xt\/ ∃ov sz0 l0,y.sh=some (ov,sz0,l0):=by unfold xN at h;rw[hx]at h;cases hy:y.sh with|none=>rw[hy]at h;exact .inl h|some q=>exact .inr ⟨_,_,_,rfl⟩
structure wU (w:World) (H:qp) (ι:yp) (Im:Nat->Prop) (w' :World) (H' :qp) (ι' :yp) (jT:Nat->Prop):Prop where
 comp: ∀β b,H.get β=some b-> ∃b',H'.get β=some b' /\xN b b' (ι β) (ι' β)
 im: ∀b,Im b->jT b
 pU: ∀b,jT b->Im b\/w.heap.size<=b\/ ∃β x,H.get β=some x/\x.yb (ι β) b
 nQ: ∀β x z,H'.get β=some x->x.yb (ι' β) z->w.heap.size<=z\/ ∃β0 x0,H.get β0=some x0/\x0.yb (ι β0) z
 kF: ∀b,b<w.heap.size->(∀ β x,H.get β=some x-> ¬x.yb (ι β) b)->w'.heap[b]? =w.heap[b]?
 size:w.heap.size<=w'.heap.size
 io:w'.os=w.os/\w'.output=w.output
theorem uV(b:qD)(p:Pl):xN b b p p:=by unfold xN;cases h:b.sh with|some q=>exact⟨jv _,fun _=>⟨rfl,fun _=>⟨rfl,p.XX⟩⟩⟩|none=>cases b<;>first|(simp only[qD.sh]at h;cases h;done)|rfl|exact trivial
theorem ZF{x y z:qD}{p q r:Pl}(h1:xN x y p q)(h2:xN y z q r):xN x z p r:=by
 have key: ∀{i1 i2 i3:Bool}{s1 s2 s3 l1 l2 l3:Nat},(l1<=l2/\(l1=l2->i1=i2/\(i1=false->s1=s2/\p.kF q)))->(l2<=l3/\(l2=l3->i2=i3/\(i2=false->s2=s3/\q.kF r)))->
   (l1<=l3/\(l1=l3->i1=i3/\(i1=false->s1=s3/\p.kF r))):=by
  intro i1 i2 i3 s1 s2 s3 l1 l2 l3 h1 h2;obtain⟨a1,b1⟩:=h1;obtain⟨a2,b2⟩:=h2;refine⟨n! a1 a2,fun e=>?_⟩;obtain⟨i1,j1⟩:=b1 o?;obtain⟨i2,j2⟩:=b2 o?;refine⟨i1.trans i2,fun hn=>?_⟩;obtain⟨k1,l1⟩:=j1 hn;obtain⟨k2,l2⟩:=j2 (i1 ▸ hn);exact⟨k1.trans k2,Pl.Rr l1 l2⟩
 unfold xN at h1 h2 |-;cases hx:x.sh with|some a=>(obtain⟨i1,s1,l1⟩:=a;rw[hx]at h1;cases hy:y.sh with|some b=>(obtain⟨i2,s2,l2⟩:=b;rw[hy]at h1 h2;cases hz:z.sh with|some c=>obtain⟨i3,s3,l3⟩:=c;rw[hz]at h2;exact key h1 h2|none=>rw[hz]at h2;exact h2)|none=>rw[hy]at h1 h2;have hd:y= .xt:=h1;subst hd;cases hz:z.sh with|some c=>rw[hz]at h2;exact(h2:False).elim|none=>rw[hz]at h2;cases z<;>first|rfl|exact(h2:False).elim)|none=>rw[hx]at h1;cases hy:y.sh with|some b=>rw[hy]at h1;exact(h1:False).elim|none=>rw[hy]at h1 h2;cases hz:z.sh with|some c=>rw[hz]at h2;exact(h2:False).elim|none=>rw[hz]at h2;cases x<;>cases y<;>first|exact(h1:False).elim|(cases z<;>first|exact(h2:False).elim|exact trivial|exact Eq.trans (h1:p=q) (h2:q=r))
theorem wU.refl(w:World)(H:qp)(ι:yp)(Im:Nat->Prop):wU w H ι Im w H ι Im where
 comp:=fun β b h=>⟨b,h,uV b _⟩
 im:=fun _ h=>h
 pU:=fun _ h=> .inl h
 nQ:=fun β x z h hu=> .inr ⟨β,x,h,hu⟩
 kF:=fun _ _ _=>rfl
 size:=jv _
 io:=⟨rfl,rfl⟩
theorem wU.trans{w w1 w2:World}{H H1 H2:qp}{ι ι1 ι2:yp}{Im iX Gd:Nat->Prop}
  (h1:wU w H ι Im w1 H1 ι1 iX) (h2:wU w1 H1 ι1 iX w2 H2 ι2 Gd):wU w H ι Im w2 H2 ι2 Gd where
 comp:=fun β b h=>by obtain⟨b1,g1,c1⟩:=h1.comp β b h;obtain⟨b2,g2,c2⟩:=h2.comp β b1 g1;exact⟨b2,g2,ZF c1 c2⟩
 im:=fun b h=>h2.im b (h1.im b h)
 pU:=fun b h=>by rcases h2.pU b h with h|h|⟨β,x,hx,hu⟩;exact h1.pU b h;exact .inr (.inl (n! h1.size h));rcases h1.nQ β x b hx hu with h|⟨β0,x0,g,Ld⟩;exact .inr (.inl h);exact .inr (.inr ⟨β0,x0,g,Ld⟩)
 nQ:=fun β x z h hu=>by rcases h2.nQ β x z h hu with h|⟨β0,x0,g,Ld⟩;exact .inl (n! h1.size h);exact h1.nQ β0 x0 z g Ld
 kF:=fun b hb hn=>by
  have e1:=h1.kF b hb hn;have e2:=h2.kF b (U! hb h1.size) (fun β x hx hu=>by
   rcases h1.nQ β x b hx hu with h|⟨β0,x0,g,Ld⟩
   ·omega
   exact hn β0 x0 g Ld)
  exact e2.trans e1
 size:=n! h1.size h2.size
 io:=⟨h2.io.1.trans h1.io.1,h2.io.2.trans h1.io.2⟩
theorem wU.bc[xd]{w w1:World}{H H1:qp}{ι ι1:yp}{Im iX:Nat->Prop}(hi:zd w H ι Im)
  (h:wU w H ι Im w1 H1 ι1 iX) (b:Nat) (hb:Im b):w1.heap[b]? =w.heap[b]? :=
 h.kF b (hi.im b hb) fun β x hx hu=>hi.Vd β x b hx hu hb
theorem oe{w w1:World}{b:Nat}(h:w1.heap[b]? =w.heap[b]?)(o:Nat):w1.cell? ⟨b,o,none⟩=w.cell? ⟨b,o,none⟩:=by simp only[I_,h]
theorem RP.mono{w w' :World}{Im jT:Nat->Prop}(hi: ∀b,Im b->jT b)(hw: ∀b,Im b->w'.heap[b]? =w.heap[b]?)
  {p:PV} {v:Value} (h:RP w Im p v):RP w' jT p v:=by induction h with|bool b=>exact .bool b|int k n=>exact .int k n|str l=>exact .str l|agg c vs hl hf _ ih=>exact .agg c vs hl hf ih|aO sz=>exact .aO sz|sl sz es b off cap vs Qx JM mq hc hf _ sp SA ih=>(refine .sl sz es b off cap vs (fun jx=>hi b (Qx jx)) JM mq (fun i xQ=>?_) hf ih sp SA;have jx:es≠[]:=by intro e;subst e;simp at xQ);exact(oe (hw b (Qx jx)) _).trans (hc i xQ)|yc=>exact .yc|fc=>exact .fc|bP=>exact .bP|i6=>exact .i6|fn f=>exact .fn f|rp c b off vs Qx hc hf _ ih=>exact .rp c b off vs (hi b Qx) (fun i xQ=>(oe (hw b Qx) _).trans (hc i xQ)) hf ih
theorem RA.mono[xd]{w w' :World}{H H' :qp}{ι ι' :yp}{Im jT:Nat->Prop}(hi:zd w H ι Im)(he:wU w H ι Im w' H' ι' jT)
  {x:AV} {v:Value} (h:RA w H ι Im x v):RA w' H' ι' jT x v:=by have hw: ∀b,Im b->w'.heap[b]? =w.heap[b]? :=fun b hb=>he.bc hi b hb;induction h with|undef v=>exact .undef v|pv p v h=>exact .pv p v (h.mono he.im hw)|ptr β o b hb hk=>(obtain⟨b',g,hc⟩:=he.comp β _ hb;cases b<;>simp only[qD.Lu,wA]at hk<;>cases b' <;>first|exact(hc:False).elim|(have Gh:ι β=ι' β:=hc;rw[Gh];exact .ptr β o _ g rfl))|uJ β xc i o b1 o1 b hb jy h=>obtain⟨b',g,hc⟩:=he.comp β _ hb;refine .uJ β xc i o b1 o1 b' g ?_ ?_;intro qt sz l e;obtain⟨ov,sz0,l0,e0⟩:=Qf hc e;rw[Qe e0 e]at hc;exact n! (jy _ _ _ e0) hc.1;intro qt sz l e hv hn;obtain⟨ov,sz0,l0,e0⟩:=Qf hc e;rw[Qe e0 e]at hc;have hle:=jy _ _ _ e0;have hl:l0=l:=o?;obtain⟨JP,hs⟩:=hc.2 hl;obtain⟨hs,hp⟩:=hs (by rw[JP];exact hn);obtain⟨g1,g2⟩:=h ov sz0 l0 e0 o? (by rw[JP];exact hn);exact⟨by rw[g1,hp.1],by rw[g2,hs]⟩|row β xc off n v b ho hb hk jy h=>obtain⟨b',g,hc⟩:=he.comp β _ hb;refine .row β xc off n v b' ho g ?_ ?_ ?_;intro hd;by_cases h0:b= .xt;(subst h0;cases b' with|xt=>exact absurd rfl hd|_=>exact(hc:False).elim);obtain⟨_,_,_,e0⟩:=hk h0;rcases Bu hc e0 with h|h;exact absurd h hd;exact h;intro qt sz l e;obtain⟨ov,sz0,l0,e0⟩:=Qf hc e;rw[Qe e0 e]at hc;exact n! (jy _ _ _ e0) hc.1;intro qt sz l e hv;obtain⟨ov,sz0,l0,e0⟩:=Qf hc e;rw[Qe e0 e]at hc;have hle:=jy _ _ _ e0;have hl:l0=l:=o?;obtain⟨JP,hs⟩:=hc.2 hl;obtain⟨h1,h2⟩:=h ov sz0 l0 e0 o?;refine⟨o?, ?_⟩;cases hn:qt;obtain⟨hs,hp⟩:=hs (by rw[JP];exact hn);rw[JP,hn]at h2;rw[<- hp.1,<- hp.2,<- hs];exact h2;rw[JP,hn]at h2;exact h2|tE c o b off vs Qx hc hf h=>exact .tE c o b off vs (he.im b Qx) (fun i xQ=>(oe (hw b Qx) _).trans (hc i xQ)) hf fun i p hp=>(h i p hp).mono he.im hw|iW a=>exact .iW a|map β es zW hb=>(obtain⟨b',g,hc⟩:=he.comp β _ hb;cases b' <;>first|exact(hc:False).elim|(have Gh:ι β=ι' β:=hc;rw[Gh];exact .map β _ _ g))|QX f a b va vb VB Su _ _ iha ihb=>exact .QX f a b va vb VB Su iha ihb|agg c vs hl hf _ ih=>exact .agg c vs hl hf ih|xR c vs hl _ ih=>exact .xR c vs hl ih
def JW(P:Program):TypeDesc->Option TD
 | .struct fs=>some (.struct (fs.toList.map fun f=>(f.offset,P.cellsOf f.type,f.type)))
 | .array n e=>some (.array n e)
 | .slice e=>some (.slice e)
 | .map k e=>some (.map k e)
 | .bool=>some .bool
 | .int k=>some (.int k)
 | .string=>some .string
 | .pointer _=>some .ptr
 | .func _ _ _=>some .func
 | .interface _| .tuple _=>some .other
 |_=>none
def aQ(P:Program):Nat->List Field->Bool
 |_,[]=>true
 |i,f::r=>f.name != "_" &&f.offset==i&&aQ P (i+P.cellsOf f.type) r
def eqok(P:Program)(t:TypeId):Bool:=
 match P.underlying t with
 |some (.struct fs)=> !P.stoodInHeld t&& !P.eqGuardType P.depth t&&aQ P 0 fs.toList
 |_=>false
def Z9:Value->Bool
 | .agg _=>true
 |_=>false
def TD.isAgg:TD->Bool
 | .struct _| .array _ _=>true
 |_=>false
def lC(P:Program)(t:TypeId):Bool:=
 match P.underlying t with
 |some (.struct fs)=>fs.toList.all fun f=>(P.info? f.type).isSome
 |_=>true
def C3(P:Program)(t:TypeId):Option TypeId:=match P.underlying t with|some (.pointer e)=>some e|_=>none
def tiOf(P:Program)(t:TypeId):Option TI:=
 match P.info? t,P.underlying t with
 |some i,some d=>match JW P d,i.zero with
  |some td,some z=>match i9 z.cells.toList with
   |some l=>if l.length=i.size/\Z9 z=td.isAgg/\(l.all PV.kP)=true/\lC P t=true then some ⟨i.size,i.bytes,td,l,eqok P t,C3 P t⟩else none
   |none=>none
  |_,_=>none
 |_,_=>none
structure zM (P:Program) (t:TypeId) (ti:TI):Prop where
 info: ∃i z,P.info? t=some i/\i.size=ti.size/\i.bytes=ti.bytes/\i.zero=some z/\i9 z.cells.toList=some ti.zero/\Z9 z=ti.td.isAgg
 len:ti.zero.length=ti.size
 kP: ∀p∈ti.zero,p.kP=true
 und: ∃d,P.underlying t=some d/\JW P d=some ti.td
 known:lC P t=true
 eqk:ti.eq=eqok P t
 pek:ti.pe=C3 P t
theorem tiOf_ok{P:Program}{t:TypeId}{ti:TI}(h:tiOf P t=some ti):zM P t ti:=by
 unfold tiOf at h;split at h<;>try cases h
 rename_i i d hi hd;split at h<;>try cases h
 rename_i td z ju hz;split at h<;>try cases h
 rename_i l hl;split at h<;>try cases h
 rename_i hc;obtain⟨h1,h2,h3,h4⟩:=hc;exact⟨⟨i,z,hi,rfl,rfl,hz,hl,h2⟩,h1,by simpa using h3,⟨d,hd,ju⟩,h4,rfl,rfl⟩
theorem qp.zg(H:qp)(β γ:Nat)(y:qD):(H.put β y).get γ=if γ=β then some y else H.get γ:=by induction H with|nil=>simp only[qp.put,qp.get];by_cases h:β=γ<;>simp[h,eq_comm]|cons x r ih=>obtain⟨i,v⟩:=x;simp only[qp.put];by_cases h:i=β;subst h;simp only[if_true,qp.get];by_cases h2:i=γ;simp[h2];simp[h2,u_ h2];simp only[h,if_false,qp.get,ih];by_cases h2:i=γ;subst h2;simp[h];simp[h2]
def jW(ι:yp)(β:Nat)(p:Pl):yp:=fun γ=>if γ=β then p else ι γ
@[simp] theorem wS (ι:yp) (β:Nat) (p:Pl):jW ι β p β=p:=by simp[jW]
theorem pz(ι:yp){β γ:Nat}(p:Pl)(h:γ≠β):jW ι β p γ=ι γ:=by simp[jW,h]
theorem oW.mono{w w' :World}{Im jT:Nat->Prop}(hi: ∀b,Im b->jT b)(hw: ∀b,Im b->w'.heap[b]? =w.heap[b]?){ds:List Nat}{p:PV}{v:Value}{k:Sk}(h:oW w Im ds p v k):
  (∀ x∈k.blocks,w'.heap[x]? =w.heap[x]?)->oW w' jT ds p v k:=by induction h with|WI p v hs h=>exact fun _=> .WI p v hs (h.mono hi hw)|nil d ds=>exact fun _=> .nil d ds|sl d ds es b o cap ks vs elem fz hb hfz En hd hle ho de BS val JQ _ ih=>intro hk;refine .sl d ds es b o cap ks vs elem fz (by rw[hk b (by simp[Sk.blocks])];exact hb) hfz En hd hle ho de BS val JQ fun i p k a c=>ih i p k a c fun x hx=>hk x ?_;simp only[Sk.blocks,List.mem_cons,e!];exact .inr ⟨k,z7 c,hx⟩
theorem ro.mono[xd]{w w' :World}{H H' :qp}{ι ι' :yp}{Im jT:Nat->Prop}(hi:zd w H ι Im)(he:wU w H ι Im w' H' ι' jT)
  {β:Nat} {b:qD} (hp:b.used=true->ι' β=ι β/\ ∀x,b.yb (ι β) x->w'.heap[x]? =w.heap[x]?) (h:ro w H ι Im β b):ro w' H' ι' jT β b:=by have hw: ∀b,Im b->w'.heap[b]? =w.heap[b]? :=fun b hb=>he.bc hi b hb;cases b with|box c=>obtain⟨e1,e2⟩:=hp rfl;have e2:=e2 _ ⟨rfl,.inl rfl⟩;obtain⟨vs,elem,fz,h1,h2,h3,h4,h5⟩:=h;exact⟨vs,elem,fz,by rw[e1,e2];exact h1,h2,h3,h4,fun i x v a b=>(h5 i x v a b).mono hi he⟩|row qt sz es=>(cases qt with|true=>exact h|false=>obtain⟨e1,e2⟩:=hp rfl;have e2:=e2 _ ⟨rfl,.inl rfl⟩;obtain⟨vs,elem,fz,h1,h2,h3,h4,h5,h6,h7,h8⟩:=h;refine⟨vs,elem,fz,by rw[e1,e2];exact h1,h2,by rw[e1];exact h3,h4,by rw[e1];exact h5,h6,h7,fun i e j p a b=>?_⟩;obtain⟨v,g1,g2⟩:=h8 i e j p a b;exact⟨v,g1,g2.mono he.im hw⟩)|map es zW=>obtain⟨e1,e2⟩:=hp rfl;have e2:=e2 _ ⟨rfl,.inl rfl⟩;obtain⟨xe,h1,h2,h3⟩:=h;refine⟨xe,by rw[e1,e2];exact h1,h2,fun i k x born e a b=>?_⟩;obtain⟨g1,g2,g3⟩:=h3 i k x born e a b;exact⟨g1.mono he.im hw,g2.mono he.im hw,g3⟩|mz sz es=>obtain⟨e1,e2⟩:=hp rfl;have e2:=e2 _ ⟨rfl,.inl rfl⟩;obtain⟨vs,elem,fz,h1,h2,h3,h4,h5,h6,h7,h8⟩:=h;refine⟨vs,elem,fz,by rw[e1,e2];exact h1,h2,by rw[e1];exact h3,h4,by rw[e1];exact h5,h6,h7,fun i e j x a b=>?_⟩;obtain⟨v,g1,g2⟩:=h8 i e j x a b;exact⟨v,g1,g2.mono hi he⟩|jc qt ds es l7=>(cases qt with|true=>exact h|false=>obtain⟨e1,e2⟩:=hp rfl;obtain⟨vs,elem,fz,h1,h2,h3,h4,h5,h6,h7,h8,h9⟩:=h;refine⟨vs,elem,fz,by rw[e1,e2 _ ⟨rfl,.inl rfl⟩];exact h1,h2,by rw[e1];exact h3,by rw[e1];exact h4,by rw[e1];exact h5,by rw[e1];exact h6,fun x hx=>U! (h7 x (by rw[<- e1];exact hx)) he.size,h8,fun i p k a b=>?_⟩;rw[e1]at b;obtain⟨v,g1,g2,g3⟩:=h9 i p k a b;exact⟨v,g1,fun hj=>(g2 hj).mono he.im hw fun x hx=>e2 x ⟨rfl,.inr ⟨rfl,e!.mpr ⟨k,z7 b,hx⟩⟩⟩,fun γ xc hf=>⟨(g3 γ xc hf).1,(g3 γ xc hf).2.mono hi he⟩⟩)|xt=>trivial
theorem ro.lt{w:World}{H:qp}{ι:yp}{Im:Nat->Prop}{β:Nat}{b:qD}(h:ro w H ι Im β b)(hu:b.used=true):(ι β).b<w.heap.size:=by
 have key: ∀o,w.heap[(ι β).b]? =some o->(ι β).b<w.heap.size:=fun o ho=>by rcases O_ (ι β).b w.heap.size with xQ|hge;exact xQ;simp[k_ hge]at ho
 cases b with|box c=>obtain⟨vs,elem,fz,h1,_⟩:=h;exact key _ h1|row qt sz es=>(cases qt with|true=>cases hu|false=>obtain⟨vs,elem,fz,h1,_⟩:=h;exact key _ h1)|map es zW=>obtain⟨xe,h1,_⟩:=h;exact key _ h1|mz sz es=>obtain⟨vs,elem,fz,h1,_⟩:=h;exact key _ h1|jc qt ds es l7=>(cases qt with|true=>cases hu|false=>obtain⟨vs,elem,fz,h1,_⟩:=h;exact key _ h1)|xt=>cases hu
theorem ro.sY{w:World}{H:qp}{ι:yp}{Im:Nat->Prop}{β:Nat}{b:qD}{x:Nat}(h:ro w H ι Im β b)(hu:b.yb (ι β) x):x<w.heap.size:=by rcases hu.2 with rfl|⟨ho,hx⟩;exact h.lt hu.1;cases b<;>simp only[qD.SG,wA]at ho;rename_i qt ds es l7;cases qt with|true=>exact absurd hu.1 (by simp[qD.used])|false=>obtain⟨vs,elem,fz,h1,h2,h3,h4,h5,h6,h7,h8⟩:=h;exact h7 x hx
theorem qD.foot_of{b:qD}{p:Pl}{x:Nat}(hb:b.SG=false)(h:b.yb p x):x=p.b:=by rcases h.2 with h|⟨h,_⟩;exact h;rw[hb]at h;cases h
theorem zd.TQ[xd]{w w' :World}{H:qp}{ι:yp}{Im:Nat->Prop}(hi:zd w H ι Im)(β:Nat)(y:qD)(p:Pl)
  (hold: ∀x,H.get β=some x->xN x y (ι β) p) (mq:w.heap.size<=w'.heap.size/\w'.os=w.os/\w'.output=w.output)
  (Jh: ∀b,b<w.heap.size->(∀ x,H.get β=some x-> ¬x.yb (ι β) b)->w'.heap[b]? =w.heap[b]?)
  (sZ: ∀z,y.yb p z->w.heap.size<=z\/ ∃x,H.get β=some x/\x.yb (ι β) z)
  (oY:wU w H ι Im w' (H.put β y) (jW ι β p) Im->ro w' (H.put β y) (jW ι β p) Im β y):
  zd w' (H.put β y) (jW ι β p) Im/\wU w H ι Im w' (H.put β y) (jW ι β p) Im:=by
 have he:wU w H ι Im w' (H.put β y) (jW ι β p) Im:=by refine⟨fun γ b hb=>?_,fun _ h=>h,fun _ h=> .inl h,fun γ x z hx hu=>?_,fun b hb hn=>?_,mq.1,mq.2⟩;by_cases hγ:γ=β;subst hγ;exact⟨y,by simp[qp.zg],by simpa using hold b hb⟩;exact⟨b,by simp[qp.zg,hγ,hb],by rw[pz ι p hγ];exact uV b _⟩;by_cases hγ:γ=β;subst hγ;simp only[qp.zg,if_true,kG]at hx;subst hx;rw[wS]at hu;rcases sZ z hu with h|⟨x,g1,g2⟩;exact .inl h;exact .inr ⟨γ,x,g1,g2⟩;simp only[qp.zg,hγ,if_false]at hx;rw[pz ι p hγ]at hu;exact .inr ⟨γ,x,hx,hu⟩;exact Jh b hb fun x hx hu=>hn β x hx hu
 refine⟨⟨fun γ b hb=>?_,fun γ γ' b b' z hb jo hu hu' =>?_,fun b hb=>U! (hi.im b hb) mq.1,fun γ b z hb hu=>?_, ?_, ?_⟩,he⟩;by_cases hγ:γ=β;subst hγ;simp only[qp.zg,if_true,kG]at hb;subst hb;exact oY he;simp only[qp.zg,hγ,if_false]at hb;refine(hi.rk γ b hb).mono hi he (fun hu=>⟨pz ι p hγ,fun x hx=>?_⟩);exact Jh _ ((hi.rk γ b hb).sY hx) fun x0 hx0 ML=>hγ (hi.inj γ β b x0 x hb hx0 hx ML);(have fresh: ∀δ d,δ≠β->H.get δ=some d->d.yb (ι δ) z->y.yb p z->False:=by intro δ d hδ hd hud huy;rcases sZ z huy with h|⟨x,g1,g2⟩;have:=(hi.rk δ d hd).sY hud;omega;exact hδ (hi.inj δ β d x z hd g1 hud g2));by_cases hγ:γ=β<;>by_cases hγ' :γ' =β;rw[hγ,hγ'];subst hγ;simp only[qp.zg,if_true,kG,hγ',if_false]at hb jo;subst hb;rw[wS]at hu;rw[pz ι p hγ']at hu';exact(fresh γ' b' hγ' jo hu' hu).elim;subst hγ';simp only[qp.zg,if_true,kG,hγ,if_false]at hb jo;subst jo;rw[wS]at hu';rw[pz ι p hγ]at hu;exact(fresh γ b hγ hb hu hu').elim;simp only[qp.zg,hγ,hγ',if_false]at hb jo;rw[pz ι p hγ]at hu;rw[pz ι p hγ']at hu';exact hi.inj γ γ' b b' z hb jo hu hu';by_cases hγ:γ=β;subst hγ;simp only[qp.zg,if_true,kG]at hb;subst hb;rw[wS]at hu;rcases sZ z hu with h|⟨x,g1,g2⟩;intro hIm;have:=hi.im _ hIm;omega;exact hi.Vd γ x z g1 g2;simp only[qp.zg,hγ,if_false]at hb;rw[pz ι p hγ]at hu;exact hi.Vd γ b z hb hu;exact xd.go hi.BM hi.Vx fun b hb=>he.bc hi b hb;exact hi.Vx
theorem noO{H:qp}{β:Nat}{x0:qD}(h:H.get β=some x0)(h0:x0.SG=false): ∀x,H.get β=some x->x.SG=false:=fun x hx=>by rw[h]at hx;cases hx;exact h0
theorem Ns{H:qp}{β:Nat}(h:H.get β=none): ∀x,H.get β=some x->x.SG=false:=fun x hx=>by rw[h]at hx;cases hx
theorem zd.put[xd]{w w' :World}{H:qp}{ι:yp}{Im:Nat->Prop}(hi:zd w H ι Im)(β:Nat)(y:qD)(p:Pl)
  (hold: ∀x,H.get β=some x->xN x y (ι β) p) (mq:w.heap.size<=w'.heap.size/\w'.os=w.os/\w'.output=w.output)
  (Jh: ∀b,b<w.heap.size->(∀ x,H.get β=some x->x.used=true->(ι β).b≠b)->w'.heap[b]? =w.heap[b]?)
  (sZ:y.used=true->w.heap.size<=p.b\/ ∃x,H.get β=some x/\x.used=true/\(ι β).b=p.b)
  (oY:wU w H ι Im w' (H.put β y) (jW ι β p) Im->ro w' (H.put β y) (jW ι β p) Im β y)
  (Xn: ∀x,H.get β=some x->x.SG=false:=by first|(apply noO;assumption;rfl)|(apply Ns;assumption)) (hy:y.SG=false:=by rfl):
  zd w' (H.put β y) (jW ι β p) Im/\wU w H ι Im w' (H.put β y) (jW ι β p) Im:=by refine zd.TQ hi β y p hold mq (fun b hb hn=>Jh b hb fun x hx hu e=>hn x hx ⟨hu,.inl e.symm⟩) (fun z hz=>?_) oY;rw[qD.foot_of hy hz];rcases sZ hz.1 with h|⟨x,g1,g2,g3⟩;exact .inl h;exact .inr ⟨x,g1,g2,.inl g3.symm⟩
section
variable [xd] {P:Program} {w:World} {H:qp} {ι:yp} {Im:Nat->Prop}
theorem C6{v:Value}{p:PV}(h:pvOf v=some p):RP w Im p v/\p.kP=true/\v.cells= #[v]:=by unfold pvOf at h;split at h<;>cases h;exact⟨.bool _,rfl,rfl⟩;exact⟨.int _ _,rfl,rfl⟩;exact⟨.str _,rfl,rfl⟩;exact⟨.yc,rfl,rfl⟩;exact⟨.aO _,rfl,rfl⟩;exact⟨.bP,rfl,rfl⟩;exact⟨.fc,rfl,rfl⟩;exact⟨.i6,rfl,rfl⟩;exact⟨.fn _,rfl,rfl⟩
theorem X8: ∀{vs:List Value}{l:List PV},i9 vs=some l->
  l.length=vs.length/\(∀ p∈l,p.kP=true)/\ ∀(i:Nat) p v,l[i]? =some p->vs[i]? =some v->RP w Im p v
 |[],l,h=>by simp only[i9,kG]at h;subst h;simp
 |v::r,l,h=>by simp only[i9]at h;split at h<;>cases h;rename_i p l' hp hl;obtain⟨h1,h2,h3⟩:=X8 hl;obtain⟨g1,g2,_⟩:=C6 (w:=w) (Im:=Im) hp;refine⟨by simp[h1],by simpa using⟨g2,h2⟩,fun i q u hq hu=>?_⟩;cases i with|zero=>simp at hq hu;subst hq hu;exact g1|succ i=>simp at hq hu;exact h3 i q u hq hu
theorem avOf_ok(v:Value):RA w H ι Im (avOf v) v:=by unfold avOf;split;split;rename_i cs _ l hl;obtain⟨h1,h2,h3⟩:=X8 (w:=w) (Im:=Im) hl;exact .pv _ _ (.agg l cs h1 h2 h3);exact .undef _;exact .xR [] [] rfl z?;split;rename_i p hp;exact .pv _ _ (C6 hp).1;exact .undef _
theorem QI{a:Act}{E:yo}(hE: ∀t,RA w H ι Im (E.get t) (a.tmps.getD t undef))(x:Operand):RA w H ι Im (ev E x) (a.eval x):=by cases x with|tmp t=>exact hE t|const v=>exact avOf_ok v|global g=>exact .undef _|func f=>exact .pv _ _ (.fn f)
theorem add_plain(b o n:Nat):(⟨b,o,none⟩:Addr).add n=⟨b,o+n,none⟩:=by unfold Addr.add;split;rename_i h;subst h;rfl;rfl
theorem gx{b o:Nat}{vs:Array Value}{elem:TypeId}{fz:Nat×Nat}(h:w.heap[b]? =some (.cells vs elem fz)):
  w.cell? ⟨b,o,none⟩=vs[o]? :=by simp[I_,h]
theorem qx{t:TypeId}{d:TypeDesc}(h:P.underlying t=some d):(underlying t).run P w= .ok d w:=by simp[underlying,h]
theorem gT{t:TypeId}{i:TypeInfo}(h:P.info? t=some i):(typeInfo t).run P w= .ok i w:=by simp[typeInfo,h]
theorem zM.size{t:TypeId}{ti:TI}(h:zM P t ti):(sizeOf t).run P w= .ok ti.size w:=by obtain⟨i,z,h1,h2,_⟩:=h.info;simp[sizeOf,gT h1,h2]
theorem zM.isAgg{t:TypeId}{ti:TI}(h:zM P t ti):(Go.isAgg t).run P w= .ok ti.isAgg w:=by obtain⟨d,h1,h2⟩:=h.und;unfold Go.isAgg;simp only[jR,qx h1,md];unfold TI.isAgg;generalize ti.td=td at*;cases d<;>simp[JW]at h2<;>subst h2<;>rfl
theorem run_loadCellsFrom(b o:Nat)(vs:Nat->Value): ∀(n i:Nat)(acc:Array Value),(∀ j,j<n->w.cell? ⟨b,o+(i+j),none⟩=some (vs (i+j)))->
  (loadCellsFrom ⟨b,o,none⟩ i n acc).run P w= .ok (acc++((E? n).map fun j=>vs (i+j)).toArray) w
 |0,i,acc,_=>by simp[loadCellsFrom]
 |n+1,i,acc,h=>by
  have h0:=h 0 o?;simp only[D?]at h0;have ih:=run_loadCellsFrom b o vs n (i+1) (acc.push (vs i)) (fun j hj=>by
   have:=h (j+1) o?
   rwa[show i+(j+1)=i+1+j from o?]at this)
  simp only[loadCellsFrom,add_plain,jR,run_load,h0,md,ih];congr 1;apply D!;simp[List.range_succ_eq_map,Function.comp_def,i!,Nat.add_comm 1]
theorem run_loadCells(b o n:Nat)(vs:Nat->Value)(h: ∀j,j<n->w.cell? ⟨b,o+j,none⟩=some (vs j)):
  (loadCells ⟨b,o,none⟩ n).run P w= .ok ((E? n).map vs).toArray w:=by unfold loadCells;rw[run_loadCellsFrom b o vs n 0 #[] (fun j hj=>by simpa using h j hj)];simp
theorem o7: ∀{c:List AV}{l:List PV},lp c=some l->c=l.map .pv
 |[],l,h=>by simp[lp]at h;subst h;rfl
 |x::r,l,h=>by (cases x<;>simp only[lp]at h<;>try cases h);split at h<;>cases h;rename_i l' hl;simp[o7 hl]
theorem lP{c:List AV}{vs:List Value}(hl:c.length=vs.length)(hf: ∀x∈c,x.kP=true)
  (h: ∀(i:Nat) x v,c[i]? =some x->vs[i]? =some v->RA w H ι Im x v):RA w H ι Im (Jm c) (.agg ⟨vs⟩):=by unfold Jm;split;rename_i l hp;have:=o7 hp;subst this;refine .pv _ _ (.agg l vs (by simpa using hl) (fun p hp=>?_) fun i p v h1 h2=>?_);have:=hf (.pv p) (by simp[hp]);simpa[AV.kP]using this;have:=h i (.pv p) v (by simp[h1]) h2;cases this;assumption;exact .agg c vs hl hf h
theorem Ti{t:TypeId}{ti:TI}(ht:zM P t ti)(b o:Nat)(c:List AV)(vs:Nat->Value)
  (hc: ∀i,i<c.length->w.cell? ⟨b,o+i,none⟩=some (vs i)) (hf: ∀x∈c,x.kP=true)
  (h: ∀(i:Nat) x,c[i]? =some x->RA w H ι Im x (vs i)) {r:AV} (hr:Es ti c=some r):
  ∃u,(loadVar t ⟨b,o,none⟩).run P w= .ok u w/\RA w H ι Im r u:=by unfold Es at hr;unfold loadVar;simp only[jR,ht.isAgg,md];by_cases ha:ti.isAgg=true;simp only[ha,if_true]at hr |-;split at hr<;>cases hr;rename_i hlen;refine⟨.agg ⟨(E? ti.size).map vs⟩, ?_,lP v? (fun x hx=>hf x (W? hx)) ?_⟩;simp only[jR,ht.size,md,run_loadCells b o ti.size vs (fun j hj=>hc j o?),K?];intro i x v h1 h2;simp only[X?,yS]at h2;obtain⟨j,hj,rfl⟩:=h2;by_cases hi:i<ti.size;simp[hi]at hj;subst hj;rw[Y? hi]at h1;exact h i x h1;simp[hi]at hj;simp only[ha,wA,if_false]at hr |-;cases c with|nil=>cases hr|cons x r' =>simp only[kG]at hr;have h0:=hc 0 z?;simp only[D?]at h0;refine⟨vs 0,by simp[h0],hr ▸ h 0 x z?⟩
theorem Tj{t:TypeId}{ti:TI}(ht:zM P t ti)(b o:Nat)(c:List PV)(vs:Nat->Value)
  (hc: ∀i,i<c.length->w.cell? ⟨b,o+i,none⟩=some (vs i)) (hf: ∀x∈c,x.kP=true)
  (h: ∀(i:Nat) x,c[i]? =some x->RP w Im x (vs i)) {r:AV} (hr:ldP ti c=some r):
  ∃u,(loadVar t ⟨b,o,none⟩).run P w= .ok u w/\RA w H ι Im r u:=by unfold ldP at hr;unfold loadVar;simp only[jR,ht.isAgg,md];by_cases ha:ti.isAgg=true;simp only[ha,if_true]at hr |-;split at hr<;>cases hr;rename_i hlen;refine⟨.agg ⟨(E? ti.size).map vs⟩, ?_,.pv _ _ (.agg _ _ v? (fun x hx=>hf x (W? hx)) ?_)⟩;simp only[jR,ht.size,md,run_loadCells b o ti.size vs (fun j hj=>hc j o?),K?];intro i x v h1 h2;simp only[X?,yS]at h2;obtain⟨j,hj,rfl⟩:=h2;by_cases hi:i<ti.size;simp[hi]at hj;subst hj;rw[Y? hi]at h1;exact h i x h1;simp[hi]at hj;simp only[ha,wA,if_false]at hr |-;cases c with|nil=>cases hr|cons x r' =>simp only[kG]at hr;have h0:=hc 0 z?;simp only[D?]at h0;refine⟨vs 0,by simp[h0],hr ▸ .pv _ _ (h 0 x z?)⟩
end
section
variable [xd] {P:Program} {w:World} {H:qp} {ι:yp} {Im:Nat->Prop}
theorem zd.box{β:Nat}{c:List AV}(hi:zd w H ι Im)(hb:H.get β=some (.box c)):
  ∃vs elem fz,w.heap[(ι β).b]? =some (.cells vs elem fz)/\wE fz vs.size/\c.length=vs.size/\
   (∀ x∈c,x.kP=true)/\ ∀(i:Nat) x v,c[i]? =some x->vs[i]? =some v->RA w H ι Im x v:=hi.rk β _ hb
theorem zd.row{β sz:Nat}{es:List (List PV)}(hi:zd w H ι Im)(hb:H.get β=some (.row false sz es)):
  ∃vs elem fz,w.heap[(ι β).b]? =some (.cells vs elem fz)/\wE fz vs.size/\vs.size=(ι β).cap*sz/\0<sz/\
   es.length<=(ι β).cap/\(∀ e∈es,e.length=sz)/\(∀(i:Nat) e(j:Nat) p,es[i]? =some e->e[j]? =some p->p.kP=true)/\
   ∀(i:Nat) e(j:Nat) p,es[i]? =some e->e[j]? =some p-> ∃v,vs[i*sz+j]? =some v/\RP w Im p v:=hi.rk β _ hb
theorem zd.mz{β sz:Nat}{es:List (List AV)}(hi:zd w H ι Im)(hb:H.get β=some (.mz sz es)):
  ∃vs elem fz,w.heap[(ι β).b]? =some (.cells vs elem fz)/\wE fz vs.size/\vs.size=(ι β).cap*sz/\0<sz/\
   es.length<=(ι β).cap/\(∀ e∈es,e.length=sz)/\(∀(i:Nat) e(j:Nat) x,es[i]? =some e->e[j]? =some x->x.kP=true)/\
   ∀(i:Nat) e(j:Nat) x,es[i]? =some e->e[j]? =some x-> ∃v,vs[i*sz+j]? =some v/\RA w H ι Im x v:=hi.rk β _ hb
theorem zd.jc{β:Nat}{ds:List Nat}{es:List PV}{l7:Option (Nat×Nat×Nat)}(hi:zd w H ι Im)(hb:H.get β=some (.jc false ds es l7)):
  ∃vs elem fz,w.heap[(ι β).b]? =some (.cells vs elem fz)/\wE fz vs.size/\vs.size=(ι β).cap/\es.length<=(ι β).cap/\(ι β).ks.length=es.length/\
   ((ι β).b::(ι β).ks.flatMap Sk.blocks).Nodup/\(∀ x∈(ι β).ks.flatMap Sk.blocks,x<w.heap.size)/\(∀ j γ xc,l7=some (j,γ,xc)->j<es.length)/\
   ∀(i:Nat) p k,es[i]? =some p->(ι β).ks[i]? =some k-> ∃v,vs[i]? =some v/\
    ((∀ j γ xc,l7=some (j,γ,xc)->i≠j)->oW w Im ds p v k)/\(∀ γ xc,l7=some (i,γ,xc)->k= .leaf/\RA w H ι Im (.row γ xc 0 xc) v):=hi.rk β _ hb
theorem sC(t:TypeId)(a:Addr):(Instr.loadAt t (.pointer (some a))).run P w=(loadVar t a).run P w:=by unfold Instr.loadAt Instr.sureAddr;simp
theorem mem_of_getElem?{α:Type}{l:List α}{i:Nat}{x:α}(h:l[i]? =some x):x∈l:=z7 h
theorem B6{t:TypeId}{ti:TI}(ht:zM P t ti)(hi:zd w H ι Im){x:AV}{v:Value}(hx:RA w H ι Im x v)
  {r:AV} (hr:QC ti x H=some r): ∃u,(Instr.loadAt t v).run P w= .ok u w/\RA w H ι Im r u:=by
 unfold QC at hr;split at hr;{(rename_i β o;split at hr<;>try cases hr);rename_i c hb;cases hx;obtain⟨vs,elem,fz,h1,h2,h3,h4,h5⟩:=hi.box hb;rw[sC];refine Ti ht _ o (c.drop o) (fun i=>(vs[o+i]?).getD undef) (fun i xQ=>?_) (fun x hx=>h4 x (z! hx)) (fun i x hx=>?_) hr;(rw[gx h1];have:o+i<vs.size:=by simp at xQ;omega);simp[this];(rw[w!]at hx;have xQ:o+i<vs.size:=by have:=(qF hx).1;omega);exact h5 (o+i) x _ hx (by simp[xQ])};{(rename_i β xc i o;split at hr<;>try cases hr);{(rename_i sz es hb;split at hr<;>try cases hr);(rename_i jy;split at hr<;>try cases hr);(rename_i e he;have hvv:v= .pointer (some ⟨(ι β).b,i*sz+o,none⟩):=by cases hx with|uJ _ _ _ _ b1 o1 b jo hv h=>rw[hb]at jo;cases jo;obtain⟨rfl,rfl⟩:=h _ _ _ rfl jy rfl;rfl);subst hvv;obtain⟨vs,elem,fz,h1,h2,h3,h4,h5,h6,h7,h8⟩:=hi.row hb;rw[sC];refine Tj ht _ (i*sz+o) (e.drop o) (fun j=>(vs[i*sz+o+j]?).getD undef) (fun j xQ=>?_) (fun x hx=>?_) (fun j p hp=>?_) hr;(rw[gx h1];obtain⟨p,hp⟩: ∃p,e[o+j]? =some p:=by simp at xQ;exact⟨e[o+j]'(o?),z?⟩);obtain⟨v,g1,_⟩:=h8 i e (o+j) p he hp;rw[i!,g1];rfl;obtain⟨j,hj⟩:=kh (z! hx);exact h7 i e j x he hj;rw[w!]at hp;obtain⟨v,g1,g2⟩:=h8 i e (o+j) p he hp;simp only[i!,g1,c!];exact g2};{(rename_i sz es hb;split at hr<;>try cases hr);(rename_i jy;split at hr<;>try cases hr);(rename_i e he;have hvv:v= .pointer (some ⟨(ι β).b,i*sz+o,none⟩):=by cases hx with|uJ _ _ _ _ b1 o1 b jo hv h=>rw[hb]at jo;cases jo;obtain⟨rfl,rfl⟩:=h _ _ _ rfl jy rfl;rfl);subst hvv;obtain⟨vs,elem,fz,h1,h2,h3,h4,h5,h6,h7,h8⟩:=hi.mz hb;rw[sC];refine Ti ht _ (i*sz+o) (e.drop o) (fun j=>(vs[i*sz+o+j]?).getD undef) (fun j xQ=>?_) (fun x hx=>?_) (fun j p hp=>?_) hr;(rw[gx h1];obtain⟨p,hp⟩: ∃p,e[o+j]? =some p:=by simp at xQ;exact⟨e[o+j]'(o?),z?⟩);obtain⟨v,g1,_⟩:=h8 i e (o+j) p he hp;rw[i!,g1];rfl;obtain⟨j,hj⟩:=kh (z! hx);exact h7 i e j x he hj;rw[w!]at hp;obtain⟨v,g1,g2⟩:=h8 i e (o+j) p he hp;simp only[i!,g1,c!];exact g2};(rename_i ds es j γ fv hb;split at hr<;>try cases hr);(rename_i hc;obtain⟨jy,rfl,rfl⟩:=hc;have hvv:v= .pointer (some ⟨(ι β).b,j*1+0,none⟩):=by cases hx with|uJ _ _ _ _ b1 o1 b jo hv h=>rw[hb]at jo;cases jo;obtain⟨rfl,rfl⟩:=h _ _ _ rfl jy rfl;rfl);subst hvv;obtain⟨vs,elem,fz,h1,h2,h3,h4,h5,h6,h7,h8,h9⟩:=hi.jc hb;have hj:=h8 _ _ _ rfl;obtain⟨v0,g1,_,g3⟩:=h9 j es[j] (ι β).ks[j] (by simp[hj]) z?;have g4:=(g3 _ _ rfl).2;rw[sC,show j*1+0=j by omega];refine Ti ht _ j [.row γ fv 0 fv] (fun _=>v0) (fun k xQ=>?_) (fun x hx=>by simp at hx;subst hx;rfl) (fun k p hp=>?_) hr;(rw[gx h1];have:k=0:=by simpa using xQ);subst this;exact g1;cases k with|zero=>simp at hp;subst hp;exact g4|succ k=>simp at hp};rename_i c o;cases hx;rename_i b off vs Qx hc hf h;rw[sC];refine Tj ht _ (off+o) (c.drop o) (fun j=>vs (o+j)) (fun j xQ=>?_) (fun x hx=>hf x (z! hx)) (fun j p hp=>?_) hr;rw[i!];exact hc (o+j) (by simp at xQ;omega);rw[w!]at hp;exact h (o+j) p hp
 ·rename_i c;cases hx with
  |pv _ _ h=>cases h with
   |rp _ b off vs Qx hc hf h=>
    rw[sC];exact Tj ht _ off c vs hc hf h hr
 cases hr
theorem HU{b o:Nat}{vs:Array Value}{elem:TypeId}{fz:Nat×Nat}{x:Value}(h:w.heap[b]? =some (.cells vs elem fz)):
  (w.setCell ⟨b,o,none⟩ x).heap[b]? =some (.cells (vs.setIfInBounds o x) elem fz):=by obtain⟨xQ,hv⟩:=Array.getElem?_eq_some_iff.1 h;simp[S_,xQ,hv,Array.getElem_modify]
theorem VW{a:Addr}{x:Value}{b' :Nat}(jx:a.block≠b'):(w.setCell a x).heap[b']? =w.heap[b']? :=by simp[S_,Array.getElem?_modify,jx]
theorem HV{a:Addr}{x:Value}:(w.setCell a x).heap.size=w.heap.size:=by simp[S_]
theorem RP.dx{p:PV}{v:Value}(hp:p.kP=true)(h:RP w Im p v):dx v=true:=by cases h<;>first|rfl|cases hp
theorem RA.dx{x:AV}{v:Value}(hp:x.kP=true)(h:RA w H ι Im x v):Go.Gm.dx v=true:=by cases h with|pv p v h=>exact h.dx hp|undef=>cases hp|agg=>cases hp|xR=>cases hp|row _ _ _ _ _ _ ho=>exact ho|_=>rfl
theorem Ro{b o:Nat}{vs:Array Value}{elem:TypeId}{fz:Nat×Nat}{x:Value}(h:w.heap[b]? =some (.cells vs elem fz))
  (ho:o<vs.size) (hf:wE fz vs.size) (hx:dx x=true):(store ⟨b,o,none⟩ x).run P w= .ok () (w.setCell ⟨b,o,none⟩ x):=by
 have hc:w.cell? ⟨b,o,none⟩=some vs[o]:=by rw[gx h];simp[ho]
 have hz:w.frozen? ⟨b,o,none⟩=false:=by have:=hf.2 o ho;simp only[World.frozen?,h];simp only[Bool.and_eq_false_iff,decide_eq_false_iff_not];omega
 cases x<;>simp_all [store,G_,dx]
theorem uH(b o:Nat)(elem:TypeId)(fz:Nat×Nat): ∀(xs:List Value)(i:Nat)(w:World)(vs:Array Value),w.heap[b]? =some (.cells vs elem fz)->
  wE fz vs.size->o+i+xs.length<=vs.size->(∀ x∈xs,dx x=true)->
  ∃w',(storeCells ⟨b,o,none⟩ xs i).run P w= .ok () w' /\(w'.heap.size=w.heap.size/\w'.os=w.os/\w'.output=w.output)/\(∀ b',b' ≠b->w'.heap[b']? =w.heap[b']?)/\
   ∃eg,w'.heap[b]? =some (.cells eg elem fz)/\eg.size=vs.size/\ ∀k,eg[k]? =if o+i<=k/\k<o+i+xs.length then xs[k-(o+i)]? else vs[k]?
 |[],i,w,vs,h,_,_,_=>by refine⟨w,by simp[storeCells],⟨rfl,rfl,rfl⟩,fun _ _=>rfl,vs,h,rfl,fun k=>?_⟩;rw[if_neg z?]
 |x::r,i,w,vs,h,hf,hl,hx=>by
  simp only[g?]at hl;have h1:=Ro (P:=P) h (o:=o+i) (x:=x) o? hf (hx x z?);have h2:=HU (o:=o+i) (x:=x) h;obtain⟨w',g1,g2,g3,eg,g4,g5,g6⟩:=uH b o elem fz r (i+1) (w.setCell ⟨b,o+i,none⟩ x) _ h2 (by simpa using hf)
   v? (fun y hy=>hx y (by simp[hy]))
  refine⟨w', ?_,⟨by rw[g2.1,HV],g2.2.1,g2.2.2⟩,fun b' jo=>by rw[g3 b' jo,VW (by exact u_ jo)],eg,g4,by simpa using g5,fun k=>?_⟩;simp only[storeCells,add_plain,jR,h1,md,g1];rw[g6 k];simp only[g?,V_];by_cases hk:o+(i+1)<=k/\k<o+(i+1)+r.length;rw[if_pos hk,if_pos o?];obtain⟨j,rfl⟩: ∃j,k=o+i+(j+1):=⟨k-(o+i+1),o?⟩;rw[show o+i+(j+1)-(o+(i+1))=j from o?,show o+i+(j+1)-(o+i)=j+1 from o?];rfl;rw[if_neg hk];by_cases Sr:o+i=k;subst Sr;rw[if_pos rfl,if_pos o?,if_pos o?];simp;rw[if_neg Sr,if_neg o?]
theorem AV.dW{x:AV}{v:Value}(hx:RA w H ι Im x v)(hs:x.Mp=true):
  x.cells.length=v.cells.size/\(∀ y∈x.cells,y.kP=true)/\(∀ u∈v.cells.toList,dx u=true)/\
  ∀(i:Nat) y u,x.cells[i]? =some y->v.cells.toList[i]? =some u->RA w H ι Im y u:=by
 have one:x.kP=true->x.cells=[x]->
   x.cells.length=v.cells.size/\(∀ y∈x.cells,y.kP=true)/\(∀ u∈v.cells.toList,dx u=true)/\
   ∀(i:Nat) y u,x.cells[i]? =some y->v.cells.toList[i]? =some u->RA w H ι Im y u:=by
  intro hf e1;have ho:=hx.dx hf;have e2:v.cells= #[v]:=by cases v<;>first|rfl|cases ho
  rw[e1,e2];refine⟨rfl,by simpa using hf,by simpa using ho,fun i y u hy hu=>?_⟩;cases i with
  |zero=>simp at hy hu;subst hy hu;exact hx
  |succ i=>simp at hy
 have many: ∀(c:List AV)(vs:List Value),c.length=vs.length->(∀ x∈c,x.kP=true)->
   (∀(i:Nat) x v,c[i]? =some x->vs[i]? =some v->RA w H ι Im x v)-> ∀u∈vs,dx u=true:=by
  intro c vs hl hf h u hu;obtain⟨i,hi⟩:=kh hu;have:i<c.length:=by
   have:=(qF hi).1;omega
  exact(h i c[i] u z? hi).dx (hf _ z?)
 cases hx with|undef=>cases hs|xR=>cases hs|pv p v h=>(by_cases hp:p.kP=true;exact one hp (by cases p<;>first|rfl|cases hp);cases h with|agg c vs hl hf h=>(have h' : ∀(i:Nat) x v,(c.map AV.pv)[i]? =some x->vs[i]? =some v->RA w H ι Im x v:=fun i y u hy hu=>by simp only[X?,yS]at hy;obtain⟨p,hp,rfl⟩:=hy;exact .pv _ _ (h i p u hp hu));(have UZ: ∀y∈c.map AV.pv,y.kP=true:=fun y hy=>by simp only[N?]at hy;obtain⟨p,hp,rfl⟩:=hy;exact hf p hp);exact⟨by simpa[AV.cells,Value.cells]using hl,UZ,many _ vs (by simpa using hl) UZ h',h'⟩|_=>exact absurd rfl hp)|agg c vs hl hf h=>exact⟨by simpa[AV.cells,Value.cells]using hl,hf,many c vs hl hf h,h⟩|_=>exact one rfl rfl
theorem kL{α:Type}(c xs:List α)(o k:Nat)(ho:o+xs.length<=c.length):
  (c.take o++xs++c.drop (o+xs.length))[k]? =if o<=k/\k<o+xs.length then xs[k-o]? else c[k]? :=by have hl:(c.take o).length=o:=v?;by_cases h1:k<o;rw[if_neg o?,List.append_assoc,p? o?,Y? h1];by_cases h2:k<o+xs.length;rw[if_pos o?,p? v?,J? o?,hl];rw[if_neg o?,J? v?,w!];congr 1;simp only[List.length_append,hl];omega
theorem lZ{t:TypeId}{ti:TI}(ht:zM P t ti)(a:Addr)(v:Value)(hs:v.cells.size=ti.size):
  (Instr.storeAt t (.pointer (some a)) v).run P w=(storeCells a v.cells.toList).run P w:=by unfold Instr.storeAt Instr.sureAddr storeVar;simp[ht.size,hs]
theorem Ug{t:TypeId}{ti:TI}(ht:zM P t ti)(hi:zd w H ι Im){y:AV}{va vv:Value}{β xc i o:Nat}(hx:RA w H ι Im (.uJ β xc i o) va)
  (c1:y.cells.length=vv.cells.size) (c2: ∀x∈y.cells,x.kP=true) (c3: ∀u∈vv.cells.toList,dx u=true)
  (c4: ∀(i:Nat) x u,y.cells[i]? =some x->vv.cells.toList[i]? =some u->RA w H ι Im x u) (hlen:y.cells.length=ti.size)
  {sz:Nat} {es:List (List AV)} (hb:H.get β=some (.mz sz es)) {ws:List (Nat×qD)} (hr:Zm sz β xc i o ti.size y.cells es=some ws):
  ∃w' ι',(Instr.storeAt t va vv).run P w= .ok () w' /\zd w' (z6 ws H) ι' Im/\wU w H ι Im w' (z6 ws H) ι' Im/\
   ∃β b b',ws=[(β,b')]/\H.get β=some b:=by unfold Zm at hr;cases hr
theorem tw{ks:List Sk}{i x:Nat}(h:x∈(ks.set i .leaf).flatMap Sk.blocks):x∈ks.flatMap Sk.blocks:=by rw[e!]at h |-;obtain⟨k,hk,hx⟩:=h;rcases List.mem_or_eq_of_mem_set hk with h|h;exact⟨k,h,hx⟩;subst h;simp[Sk.blocks]at hx
theorem XR: ∀{ks:List Sk}{i:Nat},(ks.flatMap Sk.blocks).Nodup->((ks.set i .leaf).flatMap Sk.blocks).Nodup
 |[],i,h=>z?
 |k::r,0,h=>by simp only[List.set_cons_zero,S?,Sk.blocks,List.nil_append];rw[S?,x!]at h;exact h.2.1
 |k::r,i+1,h=>by rw[List.set_cons_succ,S?,x!];rw[S?,x!]at h;exact⟨h.1,XR h.2.1,fun a ha b hb=>h.2.2 a ha b (tw hb)⟩
theorem AM{t:TypeId}{ti:TI}(ht:zM P t ti)(hi:zd w H ι Im){y:AV}{va vv:Value}{β xc i o:Nat}(hx:RA w H ι Im (.uJ β xc i o) va)(hy:RA w H ι Im y vv)
  {ds:List Nat} {es:List PV} {l7:Option (Nat×Nat×Nat)} (hb:H.get β=some (.jc false ds es l7)) {ws:List (Nat×qD)} (hr:XY β xc i o ti.size y ds es l7=some ws):
  ∃w' ι',(Instr.storeAt t va vv).run P w= .ok () w' /\zd w' (z6 ws H) ι' Im/\wU w H ι Im w' (z6 ws H) ι' Im/\
   ∃β b b',ws=[(β,b')]/\H.get β=some b:=by
 unfold XY at hr;split at hr;rotate_left;cases hr;rename_i γ fv n;split at hr;rotate_left;cases hr;rename_i hc;obtain⟨jy,db,rfl,mq,rfl,OR⟩:=hc;simp only[kG]at hr;subst hr;have hvv:va= .pointer (some ⟨(ι β).b,i*1+0,none⟩):=by cases hx with|uJ _ _ _ _ b1 o1 b jo hv h=>rw[hb]at jo;cases jo;obtain⟨rfl,rfl⟩:=h _ _ _ rfl jy rfl;rfl
 subst hvv;rw[show i*1+0=i by omega];have ot:dx vv=true:=by cases hy with|row _ _ _ _ _ _ ho=>exact ho
 have Xl:vv.cells= #[vv]:=by cases vv<;>first|rfl|cases ot
 obtain⟨vs,elem,fz,h1,h2,h3,h4,h5,h6,h7,h8,h9⟩:=hi.jc hb;obtain⟨w',g1,g2,g3,eg,g4,g5,g6⟩:=uH (P:=P) (ι β).b i elem fz vv.cells.toList 0 w vs h1 h2 (by simp[Xl];omega) (by simpa[Xl]using ot);rw[lZ ht _ _ (by rw[Xl,mq];rfl)];have hw: ∀b,Im b->w'.heap[b]? =w.heap[b]? :=fun b jo=>g3 b (fun e=>hi.Vd β _ b hb ⟨rfl,.inl e⟩ jo);obtain⟨Eh,T4⟩:=d!.1 h6;refine⟨w',jW ι β ⟨(ι β).b,(ι β).cap,(ι β).ks.set i .leaf⟩,g1, ?_⟩;have key:=zd.TQ hi (w' :=w') β (.jc false ds es (some (i,γ,n))) ⟨(ι β).b,(ι β).cap,(ι β).ks.set i .leaf⟩
  (fun x hx=>by rw[hb]at hx;cases hx;simp[xN,qD.sh,Pl.kF])
  ⟨o?,g2.2⟩ (fun b' _ jx=>g3 b' (fun e=>jx _ hb ⟨rfl,.inl e⟩)) (fun z hz=> .inr ⟨_,hb,rfl,hz.2.imp id fun h=>⟨rfl,tw h.2⟩⟩) (fun mI=>by
   refine⟨eg,elem,fz,by simpa using g4,by rw[g5];exact h2,by rw[g5,h3];simp,by simpa using h4,by simpa using h5, ?_,fun x hx=>?_,fun j γ' ver' hf=>?_,fun i' p k hp hk=>?_⟩
   ·simp only[wS]
    exact d!.2 ⟨fun h=>Eh (tw h),XR T4⟩
   ·simp only[wS]at hx
    rw[g2.1]
    exact h7 x (tw hx)
   ·cases hf
    exact db
   simp only[wS]at hk
   have hg6:=g6 i'
   simp only[Xl,D?,c_,List.size_toArray,g?,List.length_nil,A?]at hg6
   by_cases MJ:i=i'
   ·subst MJ
    rw[if_pos o?]at hg6
    simp only[Nat.sub_self,a?]at hg6
    refine⟨vv,hg6,fun h=>absurd rfl (h _ _ _ rfl),fun γ' ver' hf=>?_⟩
    cases hf
    rw[List.getElem?_set_self o?]at hk
    cases hk
    exact⟨rfl,hy.mono hi mI⟩
   rw[if_neg o?]at hg6
   rw[List.getElem?_set_ne MJ]at hk
   obtain⟨v0,k1,k2,k3⟩:=h9 i' p k hp hk
   refine⟨v0,by rw[hg6];exact k1,fun _=>?_,fun γ' ver' hf=>by cases hf;exact absurd rfl MJ⟩
   refine(k2 fun j γ' ver' hf e=>?_).mono mI.im hw fun x hx=>g3 x fun e=>?_
   ·subst e
    rw[hf]at OR
    simp only[UM,decide_eq_true_eq]at OR
    exact MJ OR.symm
   subst e
   exact Eh (e!.2 ⟨k,z7 hk,hx⟩))
 exact⟨key.1,key.2,β,_,_,rfl,hb⟩
theorem Ds{t:TypeId}{ti:TI}(ht:zM P t ti)(hi:zd w H ι Im){x y:AV}{va vv:Value}(hx:RA w H ι Im x va)(hy:RA w H ι Im y vv)
  {ws:List (Nat×qD)} (hr:o6 ti x y H=some ws):
  ∃w' ι',(Instr.storeAt t va vv).run P w= .ok () w' /\zd w' (z6 ws H) ι' Im/\wU w H ι Im w' (z6 ws H) ι' Im/\
   ∃β b b',ws=[(β,b')]/\H.get β=some b:=by
 unfold o6 at hr;split at hr;rotate_left;cases hr;rename_i hc;obtain⟨Z5,hlen⟩:=hc;obtain⟨c1,c2,c3,c4⟩:=AV.dW hy Z5;have mq:vv.cells.size=ti.size:=o?;split at hr
 ·rename_i β o;split at hr
  ·rename_i c hb;split at hr;rotate_left;cases hr
   rename_i ho;simp only[kG]at hr;subst hr;cases hx;obtain⟨vs,elem,fz,h1,h2,h3,h4,h5⟩:=hi.box hb;obtain⟨w',g1,g2,g3,eg,g4,g5,g6⟩:=uH (P:=P) (ι β).b o elem fz vv.cells.toList 0 w vs h1 h2 v? c3;rw[lZ ht _ _ mq];refine⟨w',jW ι β (ι β),g1, ?_⟩;rw[<- hlen]at ho |-;have key:=zd.put (Xn:=noO hb rfl) hi (w' :=w') β (.box (c.take o++y.cells++c.drop (o+y.cells.length))) (ι β) (fun x hx=>by rw[hb]at hx;cases hx;rfl)
    ⟨o?,g2.2⟩ (fun b' _ jx=>g3 b' (fun e=>jx _ hb rfl e.symm)) (fun _=> .inr ⟨_,hb,rfl,rfl⟩) (fun he=>by
     refine⟨eg,elem,fz,by simpa using g4,by rw[g5];exact h2,v?, ?_, ?_⟩
     ·intro x hx
      simp only[m?]at hx
      rcases hx with (hx|hx)|hx
      ·exact h4 x (W? hx)
      ·exact c2 x hx
      exact h4 x (z! hx)
     intro i x v hx hv
     rw[kL c y.cells o i ho]at hx
     rw[g6 i]at hv
     simp only[D?,c_,<- c1]at hv
     refine RA.mono hi he ?_
     split at hx
     ·rename_i hc
      rw[if_pos hc]at hv
      exact c4 _ x v hx hv
     rename_i hc
     rw[if_neg hc]at hv
     exact h5 i x v hx hv)
   exact⟨key.1,key.2,β,_,_,rfl,hb⟩
  cases hr
 ·rename_i β xc i o;split at hr
  ·rename_i ps Fh;split at hr
   ·rename_i sz es hb;split at hr;rotate_left;cases hr;rename_i jy;split at hr;rotate_left;cases hr;rename_i e he;split at hr;rotate_left;cases hr;(rename_i ho;simp only[kG]at hr;subst hr;have hvv:va= .pointer (some ⟨(ι β).b,i*sz+o,none⟩):=by cases hx with|uJ _ _ _ _ b1 o1 b jo hv h=>rw[hb]at jo;cases jo;obtain⟨rfl,rfl⟩:=h _ _ _ rfl jy rfl;rfl);(subst hvv;obtain⟨vs,elem,fz,h1,h2,h3,h4,h5,h6,h7,h8⟩:=hi.row hb;have hps' :=o7 Fh;have sZ:ps.length=ti.size:=by rw[<- hlen,hps'];simp);have db:i<es.length:=(qF he).1;have MG:e.length=sz:=h6 e (z7 he);have dE:i*sz+sz<=vs.size:=by rw[h3,<- B?];exact mulR _ o?
    obtain⟨w',g1,g2,g3,eg,g4,g5,g6⟩:=uH (P:=P) (ι β).b (i*sz+o) elem fz vv.cells.toList 0 w vs h1 h2 v? c3;rw[lZ ht _ _ mq];refine⟨w',jW ι β (ι β),g1, ?_⟩;rw[<- sZ]at ho |-;have pr: ∀(i' :Nat) e',(es.set i (e.take o++ps++e.drop (o+ps.length)))[i']? =some e' ->
      (i' =i/\e' =e.take o++ps++e.drop (o+ps.length))\/(i' ≠i/\es[i']? =some e'):=by
     intro i' e' h;rw[N!]at h;by_cases MJ:i=i'
     ·subst MJ;simp[db]at h;exact .inl ⟨rfl,by rw[<- h];simp⟩
     simp[MJ]at h;exact .inr ⟨u_ MJ,h⟩
    have hpf: ∀(j:Nat) p,ps[j]? =some p->p.kP=true/\ ∀u,vv.cells.toList[j]? =some u->RP w Im p u:=by (intro j p hp;have hy:y.cells[j]? =some (.pv p):=by rw[hps'];simp[hp]);refine⟨c2 _ (z7 hy),fun u hu=>?_⟩;have:=c4 j _ u hy hu;cases this;assumption
    have key:=zd.put (Xn:=noO hb rfl) hi (w' :=w') β (.row false sz (es.set i (e.take o++ps++e.drop (o+ps.length)))) (ι β)
     (fun x hx=>by rw[hb]at hx;cases hx;simp[xN,qD.sh,Pl.kF])
     ⟨o?,g2.2⟩ (fun b' _ jx=>g3 b' (fun e=>jx _ hb rfl e.symm)) (fun _=> .inr ⟨_,hb,rfl,rfl⟩) (fun mI=>by
      have hw: ∀b,Im b->w'.heap[b]? =w.heap[b]? :=fun b hb=>mI.bc hi b hb
      refine⟨eg,elem,fz,by simpa using g4,by rw[g5];exact h2,by rw[g5,h3];simp,h4,by simpa using h5, ?_, ?_, ?_⟩
      ·intro e' Vz
       obtain⟨i',yv⟩:=kh Vz
       rcases pr i' e' yv with ⟨_,rfl⟩|⟨_,h⟩
       ·simp;omega
       exact h6 e' (z7 h)
      ·intro i' e' j p yv hj
       rcases pr i' e' yv with ⟨_,rfl⟩|⟨_,h⟩
       ·rw[kL e ps o j ho]at hj
        split at hj
        ·exact(hpf _ p hj).1
        exact h7 i e j p he hj
       exact h7 i' e' j p h hj
      intro i' e' j p yv hj
      have Gj:j<sz:=by
       rcases pr i' e' yv with ⟨_,rfl⟩|⟨_,h⟩
       ·have:=(qF hj).1
        simp at this
        omega
       have:=(qF hj).1
       have:=h6 e' (z7 h)
       omega
      rw[g6]
      simp only[D?,c_]
      have Le:vv.cells.size=ps.length:=o?
      rw[Le]
      rcases pr i' e' yv with ⟨rfl,rfl⟩|⟨jx,h⟩
      ·rw[kL e ps o j ho]at hj
       split at hj
       ·rename_i hc
        rw[if_pos o?,show i' *sz+j-(i' *sz+o)=j-o from o?]
        obtain⟨u,hu⟩: ∃u,vv.cells.toList[j-o]? =some u:=⟨vv.cells.toList[j-o]'(v?),z?⟩
        exact⟨u,hu,((hpf _ p hj).2 u hu).mono mI.im hw⟩
       rename_i hc
       rw[if_neg o?]
       obtain⟨u,hu,hr⟩:=h8 i' e j p he hj
       exact⟨u,hu,hr.mono mI.im hw⟩
      obtain⟨u,hu,hr⟩:=h8 i' e' j p h hj
      have lK: ¬(i*sz+o<=i' *sz+j/\i' *sz+j<i*sz+o+ps.length):=by
       rcases l_ jx with xQ|MH
       ·have:(i' +1)*sz<=i*sz:=mulR _ xQ
        rw[B?]at this
        omega
       have:(i+1)*sz<=i' *sz:=mulR _ MH
       rw[B?]at this
       omega
      rw[if_neg lK]
      exact⟨u,hu,hr.mono mI.im hw⟩)
    exact⟨key.1,key.2,β,_,_,rfl,hb⟩
   rename_i sz es hb;exact Ug ht hi hx c1 c2 c3 c4 hlen hb hr;cases hr
  split at hr;rename_i sz es hb;exact Ug ht hi hx c1 c2 c3 c4 hlen hb hr;rename_i ds es l7 hb;exact AM ht hi hx hy hb hr;cases hr
 cases hr
end
section
variable [xd] {P:Program} {w:World} {H:qp} {ι:yp} {Im:Nat->Prop}
theorem zM.struct{t:TypeId}{ti:TI}(ht:zM P t ti){fs:List (Nat×Nat×TypeId)}(h:ti.td= .struct fs):
  ∃fields,P.underlying t=some (.struct fields)/\fs=fields.toList.map fun f=>(f.offset,P.cellsOf f.type,f.type):=by obtain⟨d,h1,h2⟩:=ht.und;rw[h]at h2;cases d<;>simp[JW]at h2;exact⟨_,h1,h2.symm⟩
theorem zM.array{t:TypeId}{ti:TI}(ht:zM P t ti){n:Nat}{e:TypeId}(h:ti.td= .array n e):P.underlying t=some (.array n e):=by obtain⟨d,h1,h2⟩:=ht.und;rw[h]at h2;cases d<;>simp[JW]at h2;obtain⟨rfl,rfl⟩:=h2;exact h1
theorem zM.slice{t:TypeId}{ti:TI}(ht:zM P t ti){e:TypeId}(h:ti.td= .slice e):P.underlying t=some (.slice e):=by obtain⟨d,h1,h2⟩:=ht.und;rw[h]at h2;cases d<;>simp[JW]at h2;obtain rfl:=h2;exact h1
theorem zM.map{t:TypeId}{ti:TI}(ht:zM P t ti){k e:TypeId}(h:ti.td= .map k e):P.underlying t=some (.map k e):=by obtain⟨d,h1,h2⟩:=ht.und;rw[h]at h2;cases d<;>simp[JW]at h2;obtain⟨rfl,rfl⟩:=h2;exact h1
theorem zM.int{t:TypeId}{ti:TI}(ht:zM P t ti){k:IntKind}(h:ti.td= .int k):P.underlying t=some (.int k):=by obtain⟨d,h1,h2⟩:=ht.und;rw[h]at h2;cases d<;>simp[JW]at h2;obtain rfl:=h2;exact h1
theorem zM.string{t:TypeId}{ti:TI}(ht:zM P t ti)(h:ti.td= .string):P.underlying t=some .string:=by obtain⟨d,h1,h2⟩:=ht.und;rw[h]at h2;cases d<;>simp[JW]at h2;exact h1
theorem zM.bool{t:TypeId}{ti:TI}(ht:zM P t ti)(h:ti.td= .bool):P.underlying t=some .bool:=by obtain⟨d,h1,h2⟩:=ht.und;rw[h]at h2;cases d<;>simp[JW]at h2;exact h1
theorem UA{t:TypeId}(h:0<P.cellsOf t):(sizeOf t).run P w= .ok (P.cellsOf t) w:=by unfold Program.cellsOf at h |-;cases hi:P.info? t with|none=>simp[hi]at h|some i=>simp[sizeOf,gT hi]
theorem zM.cellsOf{t:TypeId}{ti:TI}(ht:zM P t ti):P.cellsOf t=ti.size:=by obtain⟨i,z,h1,h2,_⟩:=ht.info;simp[Program.cellsOf,h1,h2]
theorem s7(b o:Nat)(f:Field)(h:0<P.cellsOf f.type):(fieldPlace ⟨b,o,none⟩ f).run P w= .ok ⟨b,o+f.offset,none⟩ w:=by unfold fieldPlace;have: ¬P.cellsOf f.type=0:=o?;simp[UA h,this,add_plain]
theorem Vo{t:TypeId}{ti:TI}(ht:zM P t ti){x:AV}{v:Value}(hx:RA w H ι Im x v)
  {f:Nat} {r:AV} (hr:o5 ti.td x f=some r): ∃u,(Instr.fieldAt t v f).run P w= .ok u w/\RA w H ι Im r u:=by
 unfold o5 at hr;split at hr;rotate_left;cases hr;rename_i fs ju;obtain⟨fields,hu,rfl⟩:=ht.struct ju;split at hr;rotate_left;cases hr;rename_i o' s te hf;split at hr;rotate_left;cases hr;rename_i hs;simp only[X?,yS]at hf;obtain⟨fd,hf,hfe⟩:=hf;simp only[Prod.mk.injEq]at hfe;obtain⟨rfl,rfl,rfl⟩:=hfe;have hfa:fields[f]? =some fd:=by rw[<- hf];simp
 unfold Instr.fieldAt Instr.sureAddr;split at hr;(rename_i β o;cases hr;cases hx with|ptr _ _ c hb hk=>refine⟨.pointer (some ⟨(ι β).b,o+fd.offset,none⟩), ?_,.ptr β _ c hb hk⟩;simp[qx hu,hfa,s7 _ _ fd hs]);(rename_i β xc j o;cases hr;cases hx with|uJ _ _ _ _ b' o' b hb jy h=>refine⟨.pointer (some ⟨b',o' +fd.offset,none⟩), ?_,.uJ β xc j _ b' _ b hb jy fun qt sz es e hv hn=>?_⟩;simp[qx hu,hfa,s7 _ _ fd hs];obtain⟨g1,g2⟩:=h qt sz es e hv hn;exact⟨g1,o?⟩);(rename_i c o;cases hr;cases hx with|tE _ _ b off vs Qx hc hf h=>refine⟨.pointer (some ⟨b,off+o+fd.offset,none⟩), ?_, ?_⟩;simp[qx hu,hfa,s7 _ _ fd hs];rw[i!];exact .tE c _ b off vs Qx hc hf h)
 ·rename_i c;cases hr;cases hx with
  |pv _ _ h=>cases h with
   |rp _ b off vs Qx hc hf h=>
    refine⟨.pointer (some ⟨b,off+fd.offset,none⟩), ?_,.tE c _ b off vs Qx hc hf h⟩;simp[qx hu,hfa,s7 _ _ fd hs]
 cases hr
theorem X0{x:AV}{v:Value}(hx:RA w H ι Im x v){k:Nat}(h:vM x=some k): ∃kd,v= .int kd (k:Int):=by unfold vM at h;split at h;(split at h<;>cases h;rename_i kd n hn;cases hx with|pv _ _ h=>cases h;exact⟨kd,by rw[F' hn]⟩);cases h
theorem Vp{G:TypeId->Option TI}(hG: ∀t ti,G t=some ti->zM P t ti){t:TypeId}{ti:TI}(ht:zM P t ti)(hi:zd w H ι Im)
  {x y:AV} {v u:Value} (hx:RA w H ι Im x v) (hy:RA w H ι Im y u) {r:AV} (hr:tq ti.td G x y H=some r):
  ∃z,(Instr.indexAt t v u).run P w= .ok z w/\RA w H ι Im r z:=by
 unfold tq at hr;split at hr;cases hr;rename_i k hk;obtain⟨kd,rfl⟩:=X0 hy hk;split at hr
 ·rename_i e ju;have hu:=ht.slice ju;split at hr;cases hr;rename_i te dw;have sy:=hG _ _ dw;split at hr
  ·rename_i qt sz es;split at hr;rotate_left;cases hr
   rename_i mq;split at hr<;>cases hr;rename_i c hc;have pS:k<es.length:=(qF hc).1;cases hx with
   |pv _ _ h=>cases h with
    |aO sz=>simp at pS
    |sl _ _ b off cap vs Qx JM hs W3 hf h sp SA=>
     obtain rfl:=SA (by intro e;subst e;simp at pS);refine⟨.pointer (some ⟨b,off+k*sz,none⟩), ?_, ?_⟩
     ·unfold Instr.indexAt asIntOf;simp[qx hu,pS,sy.size,add_plain,mq]
     have:=RA.tE (w:=w) (H:=H) (ι:=ι) (Im:=Im) c 0 b (off+k*sz) (fun j=>vs (k*sz+j)) (Qx (by intro e;subst e;simp at pS)) (fun j hj=>?_) (fun p hp=>?_) (fun j p hp=>h k c j p hc hp)
     ·simpa using this
     ·have So:=hs c (z7 hc);rw[i!];refine W3 _ ?_;have:(k+1)*sz<=es.length*sz:=mulR _ pS;rw[B?]at this;omega
     obtain⟨j,hj⟩:=kh hp;exact hf k c j p hc hj
  rename_i β xc off n;split at hr;(rename_i sz es hb;split at hr<;>cases hr;rename_i hc;obtain⟨jy,mq,hkn⟩:=hc;cases hx with|row _ _ _ _ _ b ho jo Xm hver' h=>rw[hb]at jo;cases jo;obtain⟨h1,h2⟩:=h _ _ _ rfl jy;simp only[wA,if_false]at h2;obtain⟨a,rfl,oL,eQ,Qi⟩:=h2;obtain⟨vs,elem,fz,g1,g2,g3,g4,g5,_⟩:=hi.row hb;have ha4:=Qi o?;obtain⟨ab,ao,Dw⟩:=a;simp only at oL eQ ha4;subst oL eQ ha4;refine⟨.pointer (some ⟨(ι β).b,off*sz+k*sz,none⟩), ?_,.uJ β xc (off+k) 0 _ _ _ hb (fun _ _ _ e=>by cases e;omega) fun _ _ _ e _ _=>?_⟩;unfold Instr.indexAt asIntOf;simp[qx hu,hkn,sy.size,add_plain,mq];cases e;exact⟨rfl,by rw[M?];rfl⟩);(rename_i sz es hb;split at hr<;>cases hr;rename_i hc;obtain⟨jy,mq,hkn⟩:=hc;cases hx with|row _ _ _ _ _ b ho jo Xm hver' h=>rw[hb]at jo;cases jo;obtain⟨h1,h2⟩:=h _ _ _ rfl jy;simp only[wA,if_false]at h2;obtain⟨a,rfl,oL,eQ,Qi⟩:=h2;obtain⟨vs,elem,fz,g1,g2,g3,g4,g5,_⟩:=hi.mz hb;have ha4:=Qi o?;obtain⟨ab,ao,Dw⟩:=a;simp only at oL eQ ha4;subst oL eQ ha4;refine⟨.pointer (some ⟨(ι β).b,off*sz+k*sz,none⟩), ?_,.uJ β xc (off+k) 0 _ _ _ hb (fun _ _ _ e=>by cases e;omega) fun _ _ _ e _ _=>?_⟩;unfold Instr.indexAt asIntOf;simp[qx hu,hkn,sy.size,add_plain,mq];cases e;exact⟨rfl,by rw[M?];rfl⟩);(rename_i ds es l7 hb;split at hr<;>cases hr;rename_i hc;obtain⟨jy,mq,hkn⟩:=hc;cases hx with|row _ _ _ _ _ b ho jo Xm hver' h=>rw[hb]at jo;cases jo;obtain⟨h1,h2⟩:=h _ _ _ rfl jy;simp only[wA,if_false]at h2;obtain⟨a,rfl,oL,eQ,Qi⟩:=h2;obtain⟨vs,elem,fz,g1,g2,g3,g4,_⟩:=hi.jc hb;have ha4:=Qi o?;obtain⟨ab,ao,Dw⟩:=a;simp only at oL eQ ha4;subst oL eQ ha4;refine⟨.pointer (some ⟨(ι β).b,off*1+k*1,none⟩), ?_,.uJ β xc (off+k) 0 _ _ _ hb (fun _ _ _ e=>by cases e;omega) fun _ _ _ e _ _=>?_⟩;unfold Instr.indexAt asIntOf;simp[qx hu,hkn,sy.size,add_plain,mq];cases e;exact⟨rfl,by rw[M?];rfl⟩);cases hr;cases hr
 {rename_i len e ju;have hu:=ht.array ju;split at hr;cases hr;rename_i te dw;have sy:=hG _ _ dw;split at hr;rotate_left;cases hr;rename_i pS;split at hr;(rename_i β o;cases hr;cases hx with|ptr _ _ c hb hk=>refine⟨.pointer (some ⟨(ι β).b,o+k*te.size,none⟩), ?_,.ptr β _ c hb hk⟩;unfold Instr.indexAt asIntOf Instr.sureAddr;simp[qx hu,pS,sy.size,add_plain]);(rename_i β xc j o;cases hr;cases hx with|uJ _ _ _ _ b' o' b hb jy h=>refine⟨.pointer (some ⟨b',o' +k*te.size,none⟩), ?_,.uJ β xc j _ b' _ b hb jy fun qt sz es e hv hn=>?_⟩;unfold Instr.indexAt asIntOf Instr.sureAddr;simp[qx hu,pS,sy.size,add_plain];obtain⟨g1,g2⟩:=h qt sz es e hv hn;exact⟨g1,o?⟩);(rename_i c o;cases hr;cases hx with|tE _ _ b off vs Qx hc hf h=>refine⟨.pointer (some ⟨b,off+o+k*te.size,none⟩), ?_, ?_⟩;unfold Instr.indexAt asIntOf Instr.sureAddr;simp[qx hu,pS,sy.size,add_plain];rw[i!];exact .tE c _ b off vs Qx hc hf h);cases hr};cases hr
theorem Ba{t:TypeId}{ti:TI}(ht:zM P t ti){x:AV}{v:Value}(hx:RA w H ι Im x v){off:Nat}{r:AV}
  (hr:B9 ti x off=some r): ∃cs u,v= .agg cs/\(part t cs off).run P w= .ok u w/\RA w H ι Im r u:=by
 have key: ∀(c:List AV)(vs:List Value),c.length=vs.length->(∀ x∈c,x.kP=true)->
   (∀(i:Nat) x v,c[i]? =some x->vs[i]? =some v->RA w H ι Im x v)->Es ti (c.drop off)=some r-> ∃u,(part t ⟨vs⟩ off).run P w= .ok u w/\RA w H ι Im r u:=by
  intro c vs hl hf h hr;unfold Es at hr;unfold part;simp only[jR,ht.isAgg,md];by_cases ha:ti.isAgg=true
  ·simp only[ha,if_true]at hr |-;split at hr<;>cases hr;rename_i hlen;refine⟨.agg ⟨(vs.drop off).take ti.size⟩,by simp[ht.size],lP v? (fun x hx=>hf x (z! (W? hx))) ?_⟩;intro i x v h1 h2;by_cases hi:i<ti.size
   ·rw[Y? hi,w!]at h1 h2;exact h _ x v h1 h2
   have:=(qF h1).1;simp at this;omega
  simp only[ha,wA,if_false]at hr |-;split at hr<;>cases hr;rename_i x r' hd;have hx:c[off]? =some r:=by
   have:=congrArg (fun l=>l[0]?) hd;simpa using this
  have xQ:off<vs.length:=by rw[<- hl];exact(qF hx).1
  refine⟨vs[off], ?_,h off r _ hx (by simp[xQ])⟩;have:(⟨vs⟩:Array Value)[off]? =some vs[off]:=by simp[xQ]
  simp[this]
 unfold B9 at hr;split at hr
 ·rename_i c;cases hx with
  |pv _ _ h=>cases h with
   |agg _ vs hl hf h=>
    have hr' :Es ti ((c.map AV.pv).drop off)=some r:=by
     rw[<- List.map_drop];unfold ldP at hr;unfold Es;by_cases ha:ti.isAgg=true
     ·simp only[ha,if_true,m_]at hr |-;split at hr<;>cases hr;rename_i hlen;rw[if_pos hlen,<- List.map_take];congr 1;unfold Jm;have: ∀l:List PV,lp (l.map AV.pv)=some l:=by
       intro l;induction l with
       |nil=>rfl
       |cons x r ih=>simp[lp,ih]
      rw[this]
     simp only[ha,wA,if_false]at hr |-;split at hr<;>cases hr;rename_i x r' hd;simp[hd]
    obtain⟨u,g1,g2⟩:=key (c.map .pv) vs (by simpa using hl) (fun y hy=>by
     simp only[N?]at hy
     obtain⟨p,hp,rfl⟩:=hy
     exact hf p hp) (fun i y u hy hu=>by
     simp only[X?,yS]at hy
     obtain⟨p,hp,rfl⟩:=hy
     exact .pv _ _ (h i p u hp hu)) hr'
    exact⟨_,u,rfl,g1,g2⟩
 (rename_i c;cases hx with|agg _ vs hl hf h=>obtain⟨u,g1,g2⟩:=key c vs hl hf h hr;exact⟨_,u,rfl,g1,g2⟩);cases hr
end
section
variable [xd] {P:Program} {w:World} {H:qp} {ι:yp} {Im:Nat->Prop}
def Bd(X:Nat->Prop)(H:qp)(nx:Nat):Prop:= ∀β b,H.get β=some b->β<nx\/X β
def tj(X:Nat->Prop)(w:World)(H:qp)(ι:yp)(Im:Nat->Prop)(nx:Nat)(e:mA)(u:Value)(w' :World):Prop:=
 ∃ι',zd w' (z6 e.2.1 H) ι' Im/\wU w H ι Im w' (z6 e.2.1 H) ι' Im/\RA w' (z6 e.2.1 H) ι' Im e.1 u/\nx<=e.2.2/\
  Bd X (z6 e.2.1 H) e.2.2
theorem tj.pure(hi:zd w H ι Im){nx:Nat}{X:Nat->Prop}(xV:Bd X H nx){r:AV}{u:Value}(h:RA w H ι Im r u):
  tj X w H ι Im nx (r,[],nx) u w:=⟨ι,hi,wU.refl _ _ _ _,h,jv _,xV⟩
theorem KY{nx:Nat}{X:Nat->Prop}(xV:Bd X H nx)(hX: ¬X nx):H.get nx=none:=by cases h:H.get nx with|none=>rfl|some b=>rcases xV nx b h with h|h;omega;exact absurd h hX
theorem yT{nx:Nat}{X:Nat->Prop}(xV:Bd X H nx){γ:Nat}{y:qD}{n:Nat}(hn:nx<=n)(hγ:γ<n\/X γ):Bd X (z6 [(γ,y)] H) n:=by intro β b h;simp only[z6,qp.zg]at h;split at h;rename_i e;subst e;exact hγ;rcases xV β b h with h|h;exact .inl o?;exact .inr h
theorem aP{X:Nat->Prop}{nx:Nat}(h: ∀γ,X γ->nx+1<=γ): ¬X nx:=fun hx=>by have:=h _ hx;omega
theorem zd.new(hi:zd w H ι Im){nx:Nat}{X:Nat->Prop}(xV:Bd X H nx)(hX: ¬X nx)(w' :World)(y:qD)(o:Obj)(cap:Nat)
  (hw:w'.heap=w.heap.push o) (OW:w'.os=w.os/\w'.output=w.output)
  (oY: ∀ι',ι' nx=⟨w.heap.size,cap,[]⟩->wU w H ι Im w' (H.put nx y) ι' Im->ro w' (H.put nx y) ι' Im nx y) (hyO:y.SG=false:=by rfl):
  ∃ι',ι' nx=⟨w.heap.size,cap,[]⟩/\zd w' (H.put nx y) ι' Im/\wU w H ι Im w' (H.put nx y) ι' Im:=by
 have hf:=KY xV hX;obtain⟨h1,h2⟩:=zd.put (Xn:=Ns hf) (hy:=hyO) hi (w' :=w') nx y ⟨w.heap.size,cap,[]⟩ (fun x hx=>by rw[hf]at hx;cases hx) ⟨by rw[hw];simp,OW⟩
  (fun b hb _=>by rw[hw];simp[Array.getElem?_push,Nat.ne_of_lt hb]) (fun _=> .inl (jv _))
  (oY _ z?)
 exact⟨_,z?,h1,h2⟩
theorem kf(n:Nat):wE (0,0) n:=⟨jv _,fun i _ h=>by simp at h⟩
theorem SR(hi:zd w H ι Im){nx:Nat}{X:Nat->Prop}(xV:Bd X H nx)(hX: ¬X nx)(c:List AV)(vs:List Value)(elem:TypeId)
  (hl:c.length=vs.length) (hf: ∀x∈c,x.kP=true) (h: ∀(i:Nat) x v,c[i]? =some x->vs[i]? =some v->RA w H ι Im x v):
  tj X w H ι Im nx (.ptr nx 0,[(nx,.box c)],nx+1) (.pointer (some ⟨w.heap.size,0,none⟩)) { w with heap:=w.heap.push (.cells ⟨vs⟩ elem) }:=by
 obtain⟨ι',h0,h1,h2⟩:=zd.new hi xV hX { w with heap:=w.heap.push (.cells ⟨vs⟩ elem) } (.box c) (.cells ⟨vs⟩ elem) 0 rfl ⟨rfl,rfl⟩ (fun ι' hp he=>by
  refine⟨⟨vs⟩,elem,(0,0),by simp[hp],kf _,by simpa using hl,hf,fun i x v hx hv=>?_⟩
  exact(h i x v hx (by simpa using hv)).mono hi he)
 refine⟨ι',h1,h2, ?_,z?,yT xV z? (.inl z?)⟩;have hg:(z6 [(nx,qD.box c)] H).get nx=some (.box c):=by simp[z6,qp.zg]
 have:=RA.ptr (w:={ w with heap:=w.heap.push (.cells ⟨vs⟩ elem) }) (ι:=ι') (Im:=Im) nx 0 _ hg rfl;rw[h0]at this;exact this
theorem Zi(t:TypeId)(v:Value):(newVar t v).run P w= .ok ⟨w.heap.size,0,none⟩ { w with heap:=w.heap.push (.cells v.cells t) }:=by simp[newVar,newRow]
theorem Qq{t:TypeId}{ti:TI}(ht:zM P t ti): ∃z,(zeroValue t).run P w= .ok z w/\ti.zero.length=z.cells.size/\
  (∀(i:Nat) p v,ti.zero[i]? =some p->z.cells.toList[i]? =some v->RP w Im p v)/\Z9 z=ti.td.isAgg:=by obtain⟨i,z,h1,h2,h3,h4,h5,h6⟩:=ht.info;obtain⟨g1,g2,g3⟩:=X8 (w:=w) (Im:=Im) h5;refine⟨z,by simp[zeroValue,gT h1,h4],by simpa using g1,g3,h6⟩
theorem Dk{t:TypeId}{ti:TI}(ht:zM P t ti)(hi:zd w H ι Im){nx:Nat}{X:Nat->Prop}(xV:Bd X H nx)(hX: ¬X nx):
  ∃u w',(Instr.alloc t true (.tuple #[])).run P w= .ok u w' /\tj X w H ι Im nx (.ptr nx 0,[(nx,.box (ti.zero.map .pv))],nx+1) u w' :=by obtain⟨z,h1,h2,h3,_⟩:=Qq (w:=w) (Im:=Im) ht;refine⟨_,_, ?_,SR hi xV hX (ti.zero.map .pv) z.cells.toList t (by simpa using h2) (fun x hx=>?_) (fun i x v hx hv=>?_)⟩;unfold Instr.alloc;simp[h1,Zi];simp only[N?]at hx;obtain⟨p,hp,rfl⟩:=hx;exact ht.kP p hp;simp only[X?,yS]at hx;obtain⟨p,hp,rfl⟩:=hx;exact .pv _ _ (h3 i p v hp hv)
theorem Pc{G:GP}{t:TypeId}{ti:TI}(ht:zM P t ti)(hi:zd w H ι Im){nx:Nat}{X:Nat->Prop}(xV:Bd X H nx){e:mA}(hr:ZA G t ti nx=some e)(hX: ∀γ,X γ->e.2.2<=γ):
  ∃u w',(Instr.alloc t true (.tuple #[])).run P w= .ok u w' /\tj X w H ι Im nx e u w' :=by unfold ZA at hr;cases hr
theorem aBox_ok{t:TypeId}(hi:zd w H ι Im){nx:Nat}{X:Nat->Prop}(xV:Bd X H nx)(hX: ¬X nx){x:AV}{v:Value}(hx:RA w H ι Im x v)(hs:x.Mp=true):
  ∃u w',(Instr.box t v).run P w= .ok u w' /\tj X w H ι Im nx (.ptr nx 0,[(nx,.box x.cells)],nx+1) u w' :=by obtain⟨c1,c2,c3,c4⟩:=AV.dW hx hs;refine⟨_,_, ?_,SR hi xV hX x.cells v.cells.toList t (by simpa using c1) c2 c4⟩;unfold Instr.box;simp[Zi]
theorem IM{t:TypeId}(hi:zd w H ι Im){x:AV}{v:Value}(hx:RA w H ι Im x v)(hs:x.Mp=true){l:List PV}(hl:lp x.cells=some l):
    ∃u w' jT,(Instr.box t v).run P w= .ok u w' /\zd w' H ι jT/\wU w H ι Im w' H ι jT/\RA w' H ι jT (.pv (.rp l)) u:=by
  obtain⟨c1,c2,c3,c4⟩:=AV.dW hx hs
  have Xl:=o7 hl
  have hold: ∀b,b<w.heap.size->(w.heap.push (.cells v.cells t))[b]? =w.heap[b]? :=fun b hb=>by simp[d_,L_ hb]
  have he:wU w H ι Im { w with heap:=w.heap.push (.cells v.cells t) } H ι (fun b=>Im b\/b=w.heap.size):=
    { comp:=fun β b h=>⟨b,h,uV b _⟩
      im:=fun _ h=> .inl h
      pU:=fun b h=>by
        rcases h with h|h
        · exact .inl h
        · exact .inr (.inl o?)
      nQ:=fun β x z h hu=> .inr ⟨β,x,h,hu⟩
      kF:=fun b hb _=>hold b hb
      size:=z?
      io:=⟨rfl,rfl⟩ }
  refine⟨.pointer (some ⟨w.heap.size,0,none⟩), { w with heap:=w.heap.push (.cells v.cells t) },fun b=>Im b\/b=w.heap.size, ?_, ?_,he, ?_⟩
  · unfold Instr.box
    simp[Zi]
  · exact{
      rk:=fun β b hb=>(hi.rk β b hb).mono hi he (fun hu=>⟨rfl,fun x hx=>hold _ ((hi.rk β b hb).sY hx)⟩)
      inj:=hi.inj
      im:=fun b h=>by
        rcases h with h|h
        · have:=hi.im b h;simp;omega
        · simp;omega
      Vd:=fun β b z hb hu h=>by
        rcases h with h|h
        · exact hi.Vd β b z hb hu h
        · have:=(hi.rk β b hb).sY hu;omega
      BM:=xd.go hi.BM hi.Vx fun b hb=>hold b (hi.im b hb)
      Vx:=fun b hb=> .inl (hi.Vx b hb) }
  · refine .pv _ _ (.rp l w.heap.size 0 (fun i=>(v.cells[i]?).getD undef) (.inr rfl) (fun i xQ=>?_) (fun p hp=>?_) (fun i p hp=>?_))
    · have hlt' :i<v.cells.size:=by rw[<- c1,Xl];simpa using xQ
      simp[I_,hlt']
    · have:=c2 (.pv p) (by rw[Xl];exact N?.2 ⟨p,hp,rfl⟩)
      exact this
    · have h1:x.cells[i]? =some (.pv p):=by rw[Xl];simp[hp]
      have hlt' :i<v.cells.size:=by rw[<- c1];exact(qF h1).1
      have h2:v.cells.toList[i]? =some v.cells[i]:=by simp[hlt']
      have h3:=(c4 i _ _ h1 h2).mono hi he
      simp only[hlt',Array.getElem?_eq_getElem,c!]
      cases h3 with|pv _ _ h=>exact h
theorem Yf(off:Nat): ∀(l:List Value)(j:Nat)(cs:Array Value),off+j+l.length<=cs.size->
  ((l.zipIdx j).foldl (fun cs (c,j)=>cs.setIfInBounds (off+j) c) cs).size=cs.size/\
  ∀k,((l.zipIdx j).foldl (fun cs (c,j)=>cs.setIfInBounds (off+j) c) cs)[k]? =if off+j<=k/\k<off+j+l.length then l[k-(off+j)]? else cs[k]?
 |[],j,cs,_=>⟨rfl,fun k=>by rw[if_neg z?];rfl⟩
 |x::r,j,cs,h=>by simp only[g?]at h;obtain⟨h1,h2⟩:=Yf off r (j+1) (cs.setIfInBounds (off+j) x) v?;simp only[List.zipIdx_cons,List.foldl_cons];refine⟨by simpa using h1,fun k=>?_⟩;rw[h2 k];simp only[g?,V_];by_cases hk:off+(j+1)<=k/\k<off+(j+1)+r.length;rw[if_pos hk,if_pos o?];obtain⟨m,rfl⟩: ∃m,k=off+j+(m+1):=⟨k-(off+j+1),o?⟩;rw[show off+j+(m+1)-(off+(j+1))=m from o?,show off+j+(m+1)-(off+j)=m+1 from o?];rfl;rw[if_neg hk];by_cases Sr:off+j=k;subst Sr;rw[if_pos rfl,if_pos o?,if_pos o?];simp;rw[if_neg Sr,if_neg o?]
theorem er(off:Nat)(l:Array Value)(cs:Array Value)(h:off+l.size<=cs.size):
  (l.zipIdx.foldl (fun cs (c,j)=>cs.setIfInBounds (off+j) c) cs).size=cs.size/\
  ∀k,(l.zipIdx.foldl (fun cs (c,j)=>cs.setIfInBounds (off+j) c) cs)[k]? =if off<=k/\k<off+l.size then l[k-off]? else cs[k]? :=by have h1:=Yf off l.toList 0 cs (by simpa using h);rw[<- Array.foldl_toList];simpa using h1
def RW(w:World)(H:qp)(ι:yp)(Im:Nat->Prop)(c:List AV)(cs:Array Value):Prop:=
 c.length=cs.size/\(∀ x∈c,x.kP=true)/\ ∀(i:Nat) x v,c[i]? =some x->cs[i]? =some v->RA w H ι Im x v
theorem KR{a:Act}{E:yo}(hE: ∀t,RA w H ι Im (E.get t) (a.tmps.getD t undef))(qZ TM:Nat->Option (Nat×Nat))
  (sZ: ∀i x,qZ i=some x->TM i=some x): ∀(parts:List (Nat×Operand))(c:List AV)(cs:Array Value),RW w H ι Im c cs->
  ∀{r:List AV},lD qZ (ev E) parts c=some r-> ∃rs,Instr.fill TM cs (parts.map fun(i,x)=>(i,a.eval x))=some rs/\RW w H ι Im r rs
 |[],c,cs,hc,r,h=>by simp only[lD,kG]at h;subst h;exact⟨cs,rfl,hc⟩
 |(i,x)::rest,c,cs,hc,r,h=>by simp only[lD]at h;split at h;rotate_left;cases h;rename_i off size hp;split at h;rotate_left;cases h;(rename_i BP;obtain⟨hs,hl,ho⟩:=BP;have hx:=QI hE x;obtain⟨c1,c2,c3,c4⟩:=AV.dW hx hs;obtain⟨d1,d2,d3⟩:=hc;have En:(a.eval x).cells.size=size:=o?;obtain⟨f1,f2⟩:=er off (a.eval x).cells cs o?;have Gh:RW w H ι Im (c.take off++(ev E x).cells++c.drop (off+size)) ((a.eval x).cells.zipIdx.foldl (fun cs (c,j)=>cs.setIfInBounds (off+j) c) cs):=by refine⟨by rw[f1];simp;omega,fun y hy=>?_,fun k y v hy hv=>?_⟩;simp only[m?]at hy;rcases hy with (hy|hy)|hy;exact d2 y (W? hy);exact c2 y hy;exact d2 y (z! hy);rw[<- hl,kL c (ev E x).cells off k o?]at hy;rw[f2 k,En,<- hl]at hv;split at hy;rename_i hk;rw[if_pos hk]at hv;exact c4 _ y v hy (by simpa using hv);rename_i hk;rw[if_neg hk]at hv;exact d3 k y v hy hv);(obtain⟨rs,g1,g2⟩:=KR hE qZ TM sZ rest _ _ Gh h;refine⟨rs, ?_,g2⟩;simp only[s?,Instr.fill,sZ _ _ hp];have Xn: ¬(decide ((a.eval x).cells.size≠size) || decide (off+(a.eval x).cells.size>cs.size))=true:=by simp only[g!,decide_eq_true_eq];omega);rw[if_neg Xn];exact g1
theorem JU(fields:Array Field)(sz:Field->Nat)(h: ∀f∈fields.toList,(sizeOf f.type).run P w= .ok (sz f) w):
  (fields.mapM fun f=>do pure (f.offset,<- sizeOf f.type):Sem _).run P w= .ok (fields.map fun f=>(f.offset,sz f)) w:=by
 rw[Array.mapM_eq_mapM_toList];have key: ∀(l:List Field),(∀ f∈l,(sizeOf f.type).run P w= .ok (sz f) w)->
   (l.mapM fun f=>do pure (f.offset,<- sizeOf f.type):Sem _).run P w= .ok (l.map fun f=>(f.offset,sz f)) w:=by
  intro l;induction l with
  |nil=>intro _;simp
  |cons f r ih=>
   intro h;have h1:=h f z?;have h2:=ih fun g hg=>h g (by simp[hg]);simp only[List.mapM_cons,jR,h1,md,K?,h2,s?]
 simp only[Sem.run_map,key fields.toList h,md];congr 1;apply D!;simp
theorem Me{t:TypeId}{i:TypeInfo}(h:P.info? t=some i):(sizeOf t).run P w= .ok (P.cellsOf t) w:=by simp[sizeOf,gT h,Program.cellsOf,h]
theorem Dl{G:TypeId->Option TI}(hG: ∀t ti,G t=some ti->zM P t ti){t:TypeId}{ti:TI}(ht:zM P t ti)
  {a:Act} {E:yo} (hE: ∀t,RA w H ι Im (E.get t) (a.tmps.getD t undef)) (parts:Array (Nat×Operand)) {r:AV} (hr:Kp ti G (ev E) parts.toList=some r):
  ∃u,(Instr.build t (parts.map fun(i,x)=>(i,a.eval x))).run P w= .ok u w/\RA w H ι Im r u:=by
 obtain⟨z,h1,h2,h3,h4⟩:=Qq (w:=w) (Im:=Im) ht;have hz:RW w H ι Im (ti.zero.map .pv) z.cells:=by refine⟨by simpa using h2,fun x hx=>?_,fun i x v hx hv=>?_⟩;simp only[N?]at hx;obtain⟨p,hp,rfl⟩:=hx;exact ht.kP p hp;simp only[X?,yS]at hx;obtain⟨p,hp,rfl⟩:=hx;exact .pv _ _ (h3 i p v hp (by simpa using hv))
 have XH:(parts.map fun(i,x)=>(i,a.eval x)).toList=parts.toList.map fun(i,x)=>(i,a.eval x):=z?;unfold Kp at hr;unfold Instr.build;simp only[jR,h1,md];split at hr
 ·rename_i fs ju;obtain⟨fields,hu,rfl⟩:=ht.struct ju;have hkn: ∀f∈fields.toList,(sizeOf f.type).run P w= .ok (P.cellsOf f.type) w:=by intro f hf;have hk:=ht.known;unfold lC at hk;rw[hu]at hk;have:=List.all_eq_true.1 hk f hf;obtain⟨i,hi⟩:=Option.isSome_iff_exists.1 this;exact Me hi
  split at hr<;>cases hr;rename_i c hc;obtain⟨rs,g1,g2⟩:=KR hE _ ((fields.map fun f=>(f.offset,P.cellsOf f.type))[·]?) (fun i x hx=>by
   unfold lB at hx
   simp only[X?]at hx
   cases hf:fields.toList[i]? with
   |none=>simp[hf]at hx
   |some f=>
    simp only[hf,F!,kG]at hx
    have:fields[i]? =some f:=by rw[<- hf];simp
    simp[this,<- hx]) parts.toList _ _ hz hc
  simp only[qx hu,md,jR,JU fields _ hkn,XH,g1];exact⟨.agg rs,z?,lP (by simpa using g2.1) g2.2.1 fun i x v hx hv=>g2.2.2 i x v hx (by simpa using hv)⟩
 {rename_i len e ju;have hu:=ht.array ju;split at hr;rotate_left;cases hr;rename_i te dw;split at hr<;>cases hr;rename_i c hc;obtain⟨rs,g1,g2⟩:=KR hE _ (fun i=>some (i*te.size,te.size)) (fun i x hx=>hx) parts.toList _ _ hz hc;simp only[qx hu,md,jR,(hG _ _ dw).size,XH,g1];exact⟨.agg rs,z?,lP (by simpa using g2.1) g2.2.1 fun i x v hx hv=>g2.2.2 i x v hx (by simpa using hv)⟩};cases hr
end
section
variable [xd] {P:Program} {w:World} {H:qp} {ι:yp} {Im:Nat->Prop}
def xM(w:World)(Im:Nat->Prop)(sz:Nat)(es:List (List PV))(cs:Nat->Option Value):Prop:=
 (∀ e∈es,e.length=sz)/\(∀(i:Nat) e(j:Nat) p,es[i]? =some e->e[j]? =some p->p.kP=true)/\
 ∀(i:Nat) e(j:Nat) p,es[i]? =some e->e[j]? =some p-> ∃v,cs (i*sz+j)=some v/\RP w Im p v
theorem xM.mono{w' :World}{jT:Nat->Prop}(hi: ∀b,Im b->jT b)(hw: ∀b,Im b->w'.heap[b]? =w.heap[b]?){sz:Nat}{es:List (List PV)}
  {cs:Nat->Option Value} (h:xM w Im sz es cs):xM w' jT sz es cs:=
 ⟨h.1,h.2.1,fun i e j p a b=>let⟨v,g1,g2⟩:=h.2.2 i e j p a b;⟨v,g1,g2.mono hi hw⟩⟩
theorem Ka(hi:zd w H ι Im){nx:Nat}{X:Nat->Prop}(xV:Bd X H nx)(hX: ¬X nx)(sz:Nat)(es:List (List PV))(cs:Array Value)(elem:TypeId)
  (fz:Nat×Nat) (cap:Nat) (w' :World) (hw:w'.heap=w.heap.push (.cells cs elem fz)) (OW:w'.os=w.os/\w'.output=w.output) (hfz:wE fz cs.size) (mq:0<sz) (hc:cs.size=cap*sz)
  (JM:es.length<=cap) (h:xM w Im sz es (cs[·]?)):
  tj X w H ι Im nx (.row nx es.length 0 es.length,[(nx,.row false sz es)],nx+1) (.slice (some ⟨w.heap.size,0,none⟩) es.length cap) w' :=by
 obtain⟨ι',h0,h1,h2⟩:=zd.new hi xV hX w' (.row false sz es) (.cells cs elem fz) cap hw OW (fun ι' hp he=>by
  have hk: ∀b,Im b->w'.heap[b]? =w.heap[b]? :=fun b hb=>he.bc hi b hb
  obtain⟨k1,k2,k3⟩:=h.mono he.im hk
  exact⟨cs,elem,fz,by simp[hp,hw],hfz,by simp[hp,hc],mq,by simp[hp,JM],k1,k2,k3⟩)
 refine⟨ι',h1,h2, ?_,z?,yT xV z? (.inl z?)⟩;have hg:(z6 [(nx,qD.row false sz es)] H).get nx=some (.row false sz es):=by simp[z6,qp.zg]
 refine .row nx _ 0 _ _ _ rfl hg (fun _=>⟨_,_,_,rfl⟩) (fun _ _ _ e=>by cases e;exact jv _) fun _ _ _ e _=>?_;cases e;refine⟨z?, ?_⟩;simp only[wA,if_false];exact⟨⟨w.heap.size,0,none⟩,by simp[h0],rfl,by simp[h0],fun _=>z?⟩
def mi(w:World)(H:qp)(ι:yp)(Im:Nat->Prop)(sz:Nat)(es:List (List AV))(cs:Nat->Option Value):Prop:=
 (∀ e∈es,e.length=sz)/\(∀(i:Nat) e(j:Nat) x,es[i]? =some e->e[j]? =some x->x.kP=true)/\
 ∀(i:Nat) e(j:Nat) x,es[i]? =some e->e[j]? =some x-> ∃v,cs (i*sz+j)=some v/\RA w H ι Im x v
theorem mi.mono{w' :World}{H' :qp}{ι' :yp}{jT:Nat->Prop}(hi:zd w H ι Im)(he:wU w H ι Im w' H' ι' jT){sz:Nat}{es:List (List AV)}
  {cs:Nat->Option Value} (h:mi w H ι Im sz es cs):mi w' H' ι' jT sz es cs:=
 ⟨h.1,h.2.1,fun i e j p a b=>let⟨v,g1,g2⟩:=h.2.2 i e j p a b;⟨v,g1,g2.mono hi he⟩⟩
theorem q07(hi:zd w H ι Im){nx:Nat}{X:Nat->Prop}(xV:Bd X H nx)(hX: ¬X nx)(sz:Nat)(es:List (List AV))(cs:Array Value)(elem:TypeId)
  (fz:Nat×Nat) (cap:Nat) (w' :World) (hw:w'.heap=w.heap.push (.cells cs elem fz)) (OW:w'.os=w.os/\w'.output=w.output) (hfz:wE fz cs.size) (mq:0<sz) (hc:cs.size=cap*sz)
  (JM:es.length<=cap) (h:mi w H ι Im sz es (cs[·]?)):
  tj X w H ι Im nx (.row nx es.length 0 es.length,[(nx,.mz sz es)],nx+1) (.slice (some ⟨w.heap.size,0,none⟩) es.length cap) w' :=by
 obtain⟨ι',h0,h1,h2⟩:=zd.new hi xV hX w' (.mz sz es) (.cells cs elem fz) cap hw OW (fun ι' hp he=>by
  obtain⟨k1,k2,k3⟩:=h.mono hi he
  exact⟨cs,elem,fz,by simp[hp,hw],hfz,by simp[hp,hc],mq,by simp[hp,JM],k1,k2,k3⟩)
 refine⟨ι',h1,h2, ?_,z?,yT xV z? (.inl z?)⟩;have hg:(z6 [(nx,qD.mz sz es)] H).get nx=some (.mz sz es):=by simp[z6,qp.zg]
 refine .row nx _ 0 _ _ _ rfl hg (fun _=>⟨_,_,_,rfl⟩) (fun _ _ _ e=>by cases e;exact jv _) fun _ _ _ e _=>?_;cases e;refine⟨z?, ?_⟩;simp only[wA,if_false];exact⟨⟨w.heap.size,0,none⟩,by simp[h0],rfl,by simp[h0],fun _=>z?⟩
theorem X6{x:AV}{v:Value}(hx:RA w H ι Im x v){p:PV}(h:WB x=some p):RP w Im p v:=by unfold WB at h;split at h<;>cases h;cases hx;assumption;cases hx with|iW a=>exact .sl 0 [] a.block a.off 0 (fun _=>undef) (fun h=>absurd rfl h) (B! _) z? (fun i xQ=>by simp at xQ) z? z? a.spot (fun h=>absurd rfl h)
theorem PV.dW{p:PV}{v:Value}(h:RP w Im p v):p.cells.length=v.cells.size/\(∀ q∈p.cells,q.kP=true)/\
  ∀(i:Nat) q u,p.cells[i]? =some q->v.cells[i]? =some u->RP w Im q u:=by by_cases hp:p.kP=true;(have ho:=h.dx hp;have e1:p.cells=[p]:=by cases p<;>first|rfl|cases hp);(have e2:v.cells= #[v]:=by cases v<;>first|rfl|cases ho);(rw[e1,e2];refine⟨rfl,by simpa using hp,fun i q u hq hu=>?_⟩;cases i with|zero=>simp at hq hu;subst hq hu;exact h|succ i=>simp at hq);cases h with|agg c vs hl hf h=>exact⟨by simpa[PV.cells,Value.cells]using hl,hf,fun i q u hq hu=>h i q u hq (by simpa[Value.cells]using hu)⟩|_=>exact absurd rfl hp
theorem KT{a:Act}{E:yo}(hE: ∀t,RA w H ι Im (E.get t) (a.tmps.getD t undef))(size:Nat): ∀(parts:List (Nat×Operand))(es:List (List PV))(cs:Array Value),
  cs.size=es.length*size->xM w Im size es (cs[·]?)->
  ∀{r:List (List PV)},rB size (ev E) parts es=some r-> ∃rs,Instr.fill (fun i=>some (i*size,size)) cs (parts.map fun(i,x)=>(i,a.eval x))=some rs/\
   r.length=es.length/\rs.size=es.length*size/\xM w Im size r (rs[·]?)
 |[],es,cs,hs,hc,r,h=>by simp only[rB,kG]at h;subst h;exact⟨cs,rfl,rfl,hs,hc⟩
 |(i,x)::rest,es,cs,hs,hc,r,h=>by
  simp only[rB]at h;split at h;rotate_left;cases h;rename_i p hp;split at h;rotate_left;cases h;(rename_i BP;obtain⟨sZ,db⟩:=BP;have hx:=X6 (QI hE x) hp;obtain⟨c1,c2,c3⟩:=PV.dW hx;have En:(a.eval x).cells.size=size:=o?;have dE:i*size+size<=cs.size:=by rw[hs,<- B?];exact mulR _ db);obtain⟨f1,f2⟩:=er (i*size) (a.eval x).cells cs o?;have pr: ∀(i' :Nat) e',(es.set i p.cells)[i']? =some e' ->(i' =i/\e' =p.cells)\/(i' ≠i/\es[i']? =some e'):=by intro i' e' h;rw[N!]at h;by_cases MJ:i=i';subst MJ;simp[db]at h;exact .inl ⟨rfl,h.symm⟩;simp[MJ]at h;exact .inr ⟨u_ MJ,h⟩
  obtain⟨rs,g1,g2,g3,g4⟩:=KT hE size rest (es.set i p.cells) _ (by rw[f1];simpa using hs) (by
   refine⟨fun e he=>?_,fun i' e' j q yv hj=>?_,fun i' e' j q yv hj=>?_⟩
   ·obtain⟨i',yv⟩:=kh he
    rcases pr i' e yv with ⟨_,rfl⟩|⟨_,h⟩
    ·exact sZ
    exact hc.1 e (z7 h)
   ·rcases pr i' e' yv with ⟨_,rfl⟩|⟨_,h⟩
    ·exact c2 q (z7 hj)
    exact hc.2.1 i' e' j q h hj
   have Gj:j<size:=by
    have h1:=(qF hj).1
    rcases pr i' e' yv with ⟨_,rfl⟩|⟨_,h⟩
    ·omega
    have:=hc.1 e' (z7 h)
    omega
   show ∃v,_/\_
   simp only[f2]
   rcases pr i' e' yv with ⟨rfl,rfl⟩|⟨jx,h⟩
   ·rw[if_pos o?,show i' *size+j-i' *size=j from o?]
    obtain⟨u,hu⟩: ∃u,(a.eval x).cells[j]? =some u:=⟨(a.eval x).cells[j]'(o?),z?⟩
    exact⟨u,hu,c3 j q u hj hu⟩
   obtain⟨u,hu,hr⟩:=hc.2.2 i' e' j q h hj
   have lK: ¬(i*size<=i' *size+j/\i' *size+j<i*size+(a.eval x).cells.size):=by
    rcases l_ jx with xQ|MH
    ·have:(i' +1)*size<=i*size:=mulR _ xQ
     rw[B?]at this
     omega
    have:(i+1)*size<=i' *size:=mulR _ MH
    rw[B?]at this
    omega
   rw[if_neg lK]
   exact⟨u,hu,hr⟩) h
  (refine⟨rs, ?_,by simpa using g2,by simpa using g3,g4⟩;have Xn: ¬(decide ((a.eval x).cells.size≠size) || decide (i*size+(a.eval x).cells.size>cs.size))=true:=by simp only[g!,decide_eq_true_eq];omega);simp only[s?,Instr.fill];rw[if_neg Xn];exact g1
theorem Jb{a:Act}{E:yo}(hE: ∀t,RA w H ι Im (E.get t) (a.tmps.getD t undef))(size:Nat): ∀(parts:List (Nat×Operand))(es:List (List AV))(cs:Array Value),
  cs.size=es.length*size->mi w H ι Im size es (cs[·]?)->
  ∀{r:List (List AV)},pQ size (ev E) parts es=some r-> ∃rs,Instr.fill (fun i=>some (i*size,size)) cs (parts.map fun(i,x)=>(i,a.eval x))=some rs/\
   r.length=es.length/\rs.size=es.length*size/\mi w H ι Im size r (rs[·]?)
 |[],es,cs,hs,hc,r,h=>by simp only[pQ,kG]at h;subst h;exact⟨cs,rfl,rfl,hs,hc⟩
 |(i,x)::rest,es,cs,hs,hc,r,h=>by
  simp only[pQ]at h;split at h;rotate_left;cases h;(rename_i BP;obtain⟨Z5,sZ,db⟩:=BP;obtain⟨c1,c2,_,c3⟩:=AV.dW (QI hE x) Z5;have En:(a.eval x).cells.size=size:=o?;have dE:i*size+size<=cs.size:=by rw[hs,<- B?];exact mulR _ db);obtain⟨f1,f2⟩:=er (i*size) (a.eval x).cells cs o?;have pr: ∀(i' :Nat) e',(es.set i (ev E x).cells)[i']? =some e' ->(i' =i/\e' =(ev E x).cells)\/(i' ≠i/\es[i']? =some e'):=by intro i' e' h;rw[N!]at h;by_cases MJ:i=i';subst MJ;simp[db]at h;exact .inl ⟨rfl,h.symm⟩;simp[MJ]at h;exact .inr ⟨u_ MJ,h⟩
  obtain⟨rs,g1,g2,g3,g4⟩:=Jb hE size rest (es.set i (ev E x).cells) _ (by rw[f1];simpa using hs) (by
   refine⟨fun e he=>?_,fun i' e' j q yv hj=>?_,fun i' e' j q yv hj=>?_⟩
   ·obtain⟨i',yv⟩:=kh he
    rcases pr i' e yv with ⟨_,rfl⟩|⟨_,h⟩
    ·exact sZ
    exact hc.1 e (z7 h)
   ·rcases pr i' e' yv with ⟨_,rfl⟩|⟨_,h⟩
    ·exact c2 q (z7 hj)
    exact hc.2.1 i' e' j q h hj
   have Gj:j<size:=by
    have h1:=(qF hj).1
    rcases pr i' e' yv with ⟨_,rfl⟩|⟨_,h⟩
    ·omega
    have:=hc.1 e' (z7 h)
    omega
   show ∃v,_/\_
   simp only[f2]
   rcases pr i' e' yv with ⟨rfl,rfl⟩|⟨jx,h⟩
   ·rw[if_pos o?,show i' *size+j-i' *size=j from o?]
    obtain⟨u,hu⟩: ∃u,(a.eval x).cells[j]? =some u:=⟨(a.eval x).cells[j]'(o?),z?⟩
    exact⟨u,hu,c3 j q u hj (by simpa using hu)⟩
   obtain⟨u,hu,hr⟩:=hc.2.2 i' e' j q h hj
   have lK: ¬(i*size<=i' *size+j/\i' *size+j<i*size+(a.eval x).cells.size):=by
    rcases l_ jx with xQ|MH
    ·have:(i' +1)*size<=i*size:=mulR _ xQ
     rw[B?]at this
     omega
    have:(i+1)*size<=i' *size:=mulR _ MH
    rw[B?]at this
    omega
   rw[if_neg lK]
   exact⟨u,hu,hr⟩) h
  (refine⟨rs, ?_,by simpa using g2,by simpa using g3,g4⟩;have Xn: ¬(decide ((a.eval x).cells.size≠size) || decide (i*size+(a.eval x).cells.size>cs.size))=true:=by simp only[g!,decide_eq_true_eq];omega);simp only[s?,Instr.fill];rw[if_neg Xn];exact g1
theorem Gc{te:TI}{t:TypeId}(ht:zM P t te){z:Value}(h2:te.zero.length=z.cells.size)
  (h3: ∀(i:Nat) p v,te.zero[i]? =some p->z.cells.toList[i]? =some v->RP w Im p v) (len:Nat):
  xM w Im te.size (b? len te.zero) (((S! (len*te.size)).map (z.cells[· % z.cells.size]!))[·]?):=by
 refine⟨fun e he=>?_,fun i e j p hi hj=>?_,fun i e j p hi hj=>?_⟩;rw[List.eq_of_mem_replicate he,ht.len];rw[Q!]at hi;split at hi<;>cases hi;exact ht.kP p (z7 hj);rw[Q!]at hi;split at hi<;>cases hi;rename_i xQ;have Sq:=(qF hj).1;have hl:=ht.len;have hb:i*te.size+j<len*te.size:=by have:(i+1)*te.size<=len*te.size:=mulR _ xQ;rw[B?]at this;omega
 have hm:(i*te.size+j) % z.cells.size=j:=by rw[<- h2,hl,X!,Nat.mul_add_mod];exact Nat.mod_eq_of_lt o?
 have hjz:j<z.cells.size:=o?;refine⟨z.cells[j], ?_,h3 j p _ hj (by simp[hjz])⟩;simp[hb,hm,hjz]
theorem Kq{G:TypeId->Option TI}(hG: ∀t ti,G t=some ti->zM P t ti){t e:TypeId}{ti te:TI}(ht:zM P t ti)(ju:ti.td= .slice e)(dw:G e=some te)
  (hi:zd w H ι Im) {nx:Nat} {X:Nat->Prop} (xV:Bd X H nx) (hX: ¬X nx)
  {a:Act} {E:yo} (hE: ∀t,RA w H ι Im (E.get t) (a.tmps.getD t undef)) (len:Nat) (parts:Array (Nat×Operand)) (pT:0<te.size) (hlen:len*te.size<=2^24)
  {es:List (List PV)} (hr:rB te.size (ev E) parts.toList (b? len te.zero)=some es):
  ∃u w',(Instr.buildSlice t len (parts.map fun(i,x)=>(i,a.eval x))).run P w= .ok u w' /\
   tj X w H ι Im nx (.row nx es.length 0 es.length,[(nx,.row false te.size es)],nx+1) u w' :=by
 have sy:=hG _ _ dw;obtain⟨z,h1,h2,h3,h4⟩:=Qq (w:=w) (Im:=Im) sy;have hzr:=Gc (w:=w) (Im:=Im) sy h2 h3 len;obtain⟨rs,g1,g2,g3,g4⟩:=KT hE te.size parts.toList _ _ z? hzr hr;have de:es.length=len:=by simpa using g2
 have XH:(parts.map fun(i,x)=>(i,a.eval x)).toList=parts.toList.map fun(i,x)=>(i,a.eval x):=z?;refine⟨.slice (some ⟨w.heap.size,0,none⟩) es.length es.length, { w with heap:=w.heap.push (.cells rs e) }, ?_,Ka hi xV hX te.size es rs e (0,0) es.length _ rfl ⟨rfl,rfl⟩ (kf _) pT (by rw[g3,de];simp) (jv _) g4⟩;unfold Instr.buildSlice;simp only[jR,qx (ht.slice ju),md,sy.size];rw[XH];have Xn: ¬(len*te.size>2^24):=o?;by_cases h0:len*te.size=0;simp only[h0]at g1 |-;have hz0:((S! 0).map fun x=>(#[]:Array Value)[x % (#[]:Array Value).size]!)=((S! 0).map (z.cells[· % z.cells.size]!)):=z?;simp only[q1h,q14,gt_iff_lt,if_false,K?,md,if_true,jR,hz0,g1,de];simp[newRow];simp only[Xn,if_false,K?,md,h0,jR,h1,g1,de];simp[newRow]
theorem zeroRowA{sz:Nat}{z:List PV}{len:Nat}{cs:Nat->Option Value}(h:xM w Im sz (b? len z) cs):mi w H ι Im sz (b? len (z.map AV.pv)) cs:=by
 have get: ∀(i:Nat) e,(b? len (z.map AV.pv))[i]? =some e->(b? len z)[i]? =some z/\e=z.map AV.pv:=by intro i e h;rw[Q!]at h |-;split at h<;>cases h;rename_i xQ;exact⟨if_pos xQ,rfl⟩
 refine⟨fun e he=>?_,fun i e j x hi hj=>?_,fun i e j x hi hj=>?_⟩;obtain⟨i,hi⟩:=kh he;obtain⟨h1,rfl⟩:=get i e hi;rw[m_];exact h.1 z (z7 h1);obtain⟨h1,rfl⟩:=get i e hi;rw[X?,yS]at hj;obtain⟨p,hp,rfl⟩:=hj;exact h.2.1 i z j p h1 hp;obtain⟨h1,rfl⟩:=get i e hi;rw[X?,yS]at hj;obtain⟨p,hp,rfl⟩:=hj;obtain⟨v,g1,g2⟩:=h.2.2 i z j p h1 hp;exact⟨v,g1,.pv _ _ g2⟩
theorem JB{G:TypeId->Option TI}(hG: ∀t ti,G t=some ti->zM P t ti){t e:TypeId}{ti te:TI}(ht:zM P t ti)(ju:ti.td= .slice e)(dw:G e=some te)
  (hi:zd w H ι Im) {nx:Nat} {X:Nat->Prop} (xV:Bd X H nx) (hX: ¬X nx)
  {a:Act} {E:yo} (hE: ∀t,RA w H ι Im (E.get t) (a.tmps.getD t undef)) (len:Nat) (parts:Array (Nat×Operand)) (pT:0<te.size) (hlen:len*te.size<=2^24)
  {es:List (List AV)} (hr:pQ te.size (ev E) parts.toList (b? len (te.zero.map .pv))=some es):
  ∃u w',(Instr.buildSlice t len (parts.map fun(i,x)=>(i,a.eval x))).run P w= .ok u w' /\
   tj X w H ι Im nx (.row nx es.length 0 es.length,[(nx,.mz te.size es)],nx+1) u w' :=by
 have sy:=hG _ _ dw;obtain⟨z,h1,h2,h3,h4⟩:=Qq (w:=w) (Im:=Im) sy;have hzr:=zeroRowA (H:=H) (ι:=ι) (Gc (w:=w) (Im:=Im) sy h2 h3 len);obtain⟨rs,g1,g2,g3,g4⟩:=Jb hE te.size parts.toList _ _ z? hzr hr;have de:es.length=len:=by simpa using g2
 have XH:(parts.map fun(i,x)=>(i,a.eval x)).toList=parts.toList.map fun(i,x)=>(i,a.eval x):=z?;refine⟨.slice (some ⟨w.heap.size,0,none⟩) es.length es.length, { w with heap:=w.heap.push (.cells rs e) }, ?_,q07 hi xV hX te.size es rs e (0,0) es.length _ rfl ⟨rfl,rfl⟩ (kf _) pT (by rw[g3,de];simp) (jv _) g4⟩;unfold Instr.buildSlice;simp only[jR,qx (ht.slice ju),md,sy.size];rw[XH];have Xn: ¬(len*te.size>2^24):=o?;by_cases h0:len*te.size=0;simp only[h0]at g1 |-;have hz0:((S! 0).map fun x=>(#[]:Array Value)[x % (#[]:Array Value).size]!)=((S! 0).map (z.cells[· % z.cells.size]!)):=z?;simp only[q1h,q14,gt_iff_lt,if_false,K?,md,if_true,jR,hz0,g1,de];simp[newRow];simp only[Xn,if_false,K?,md,h0,jR,h1,g1,de];simp[newRow]
theorem Vr{G:TypeId->Option TI}(hG: ∀t ti,G t=some ti->zM P t ti){t:TypeId}{ti:TI}(ht:zM P t ti)
  (hi:zd w H ι Im) {nx:Nat} {X:Nat->Prop} (xV:Bd X H nx) (hX: ∀γ,X γ->nx+1<=γ)
  {l c:AV} {vl vc:Value} (hl:RA w H ι Im l vl) (hc:RA w H ι Im c vc) {e:mA} (hr:sr ti.td G l c nx=some e):
  ∃u w',(Instr.makeSlice t vl vc).run P w= .ok u w' /\tj X w H ι Im nx e u w' :=by
 unfold sr at hr;split at hr;rotate_left;cases hr;rename_i el ju;split at hr;rotate_left;cases hr;rename_i te n n' dw hln hcn;split at hr<;>cases hr;rename_i hh;obtain⟨rfl,pT,gU⟩:=hh;have q03: ∀{x:AV}{v:Value}{m:Nat},RA w H ι Im x v->vM x=some m-> ∃k,v= .int k (m:Int):=by intro x v m hx hm;unfold vM at hm;split at hm;(rename_i k z;split at hm<;>cases hm;rename_i h0;cases hx with|pv _ _ h=>cases h;exact⟨k,by rw[F' h0]⟩);cases hm
 obtain⟨k1,rfl⟩:=q03 hl hln;obtain⟨k2,rfl⟩:=q03 hc hcn;have sy:=hG _ _ dw;obtain⟨i,z0,q1,q2,q3,q4,q5,q6⟩:=sy.info;obtain⟨z,h1,h2,h3,h4⟩:=Qq (w:=w) (Im:=Im) sy;have hzr:=Gc (w:=w) (Im:=Im) sy h2 h3 n';simp only[qg,zQ,decide_eq_true_eq]at gU;obtain⟨⟨r1,r2⟩,r3⟩:=gU;have hw0:q?.wrap (n' :Int)=(n' :Int):=IntWalk.i64_in _ ⟨o?,o?⟩;have hb:i.bytes*n' <=2^46:=by rw[q3,X!];exact r1
 have Xn: ¬(((i.bytes:Int)*(n' :Int))>2^48):=by have:((i.bytes*n' :Nat):Int)<=2^46:=o?;rw[Int.natCast_mul]at this;omega
 refine⟨.slice (some ⟨w.heap.size,0,none⟩) (b? n' te.zero).length n', { w with heap:=w.heap.push (.cells ((S! (n' *te.size)).map (z.cells[· % z.cells.size]!)) el) }, ?_,Ka hi xV (aP hX) te.size _ _ el (0,0) n' _ rfl ⟨rfl,rfl⟩ (kf _) pT z? z? hzr⟩;unfold Instr.makeSlice;have hneg: ¬((n' :Int)<0):=o?;simp only[jR,qx (ht.slice ju),md,asInt,asIntOf,K?,gT q1,hw0];have MH: ¬((n' :Int)>(n' :Int)):=o?;simp only[hneg,Xn,MH,decide_false,Bool.or_self,wA,if_false,Int.toNat_natCast,run_askRoom,md,sy.size,jR];by_cases h0:n' *te.size=0;have hz0:((S! 0).map fun x=>(#[]:Array Value)[x % (#[]:Array Value).size]!)=((S! 0).map (z.cells[· % z.cells.size]!)):=z?;simp only[h0,if_true,K?,md,hz0,newRow,jR,run_newObj,Z'];simp only[h0,if_false,jR,h1,K?,md,newRow,run_newObj,Z']
end
section
variable [xd] {P:Program} {w:World} {H:qp} {ι:yp} {Im:Nat->Prop}
theorem wU.bK{w' :World}(h:w'.heap=w.heap)(OW:w'.os=w.os/\w'.output=w.output):wU w H ι Im w' H ι Im where
 comp:=fun β b h=>⟨b,h,uV b _⟩
 im:=fun _ h=>h
 pU:=fun _ h=> .inl h
 nQ:=fun β x z h hu=> .inr ⟨β,x,h,hu⟩
 kF:=fun _ _ _=>by rw[h]
 size:=by rw[h];exact jv _
 io:=OW
theorem zd.bK{w' :World}(h:w'.heap=w.heap)(OW:w'.os=w.os/\w'.output=w.output)(hi:zd w H ι Im):zd w' H ι Im where
 rk:=fun β b hb=>(hi.rk β b hb).mono hi (wU.bK h OW) (fun _=>⟨rfl,fun _ _=>by rw[h]⟩)
 inj:=hi.inj
 im:=fun b hb=>by rw[h];exact hi.im b hb
 Vd:=hi.Vd
 BM:=xd.go hi.BM hi.Vx fun b _=>by rw[h]
 Vx:=hi.Vx
theorem RA.bK{w' :World}(h:w'.heap=w.heap)(OW:w'.os=w.os/\w'.output=w.output)(hi:zd w H ι Im){x:AV}{v:Value}(hx:RA w H ι Im x v):RA w' H ι Im x v:=hx.mono hi (wU.bK h OW)
theorem tG(hi:zd w H ι Im){x:AV}{v:Value}(hx:RA w H ι Im x v){rn:Nat}{src:List (List PV)}(h:yH x H=some (rn,src)):
  (Builtin.lenOf v).run P w= .ok src.length w/\
  ∀size,(rn=size\/src=[])-> ∃cs,(Builtin.firstCells size src.length v).run P w= .ok cs w/\cs.size=src.length*size/\xM w Im size src (cs[·]?):=by
 have empty: ∀(v:Value),(∃ a c,v= .slice (some a) 0 c)\/(∃ c,v= .slice none 0 c)->(Builtin.lenOf v).run P w= .ok ([]:List (List PV)).length w/\
   ∀size,∃ cs,(Builtin.firstCells size ([]:List (List PV)).length v).run P w= .ok cs w/\cs.size=([]:List (List PV)).length*size/\xM w Im size [] (cs[·]?):=by
  intro v hv;rcases hv with ⟨a,c,rfl⟩|⟨c,rfl⟩
  ·refine⟨by simp[Builtin.lenOf],fun size=>⟨#[], ?_,z?,by simp[xM]⟩⟩;simp[Builtin.firstCells,loadCells,loadCellsFrom]
  exact⟨by simp[Builtin.lenOf],fun size=>⟨#[],by simp[Builtin.firstCells],z?,by simp[xM]⟩⟩
 unfold yH at h;split at h
 ·rename_i qt sz es;cases h;cases hx with
  |pv _ _ h=>cases h with
   |aO sz=>
    obtain⟨e1,e2⟩:=empty (.slice none 0 0) (.inr ⟨_,rfl⟩);exact⟨e1,fun size _=>e2 size⟩
   |sl _ _ b off cap vs Qx JM mq hc hf h sp SA=>
    refine⟨by simp[Builtin.lenOf],fun size hs=>?_⟩;by_cases de:src=[]
    ·subst de;exact(empty _ (.inl ⟨_,_,rfl⟩)).2 size
    obtain rfl:=SA de;rcases hs with rfl|rfl
    ·refine⟨((E? (src.length*rn)).map vs).toArray, ?_,z?,mq,hf,fun i e j p yv hj=>?_⟩
     ·simp only[Builtin.firstCells];exact run_loadCells b off _ vs hc
     have xQ:=(qF yv).1;have Sq:=(qF hj).1;have he:=mq e (z7 yv);have:(i+1)*rn<=src.length*rn:=mulR _ xQ;rw[B?]at this;refine⟨vs (i*rn+j), ?_,h i e j p yv hj⟩;simp only[I?,X?];rw[f_ o?];rfl
    exact absurd rfl de
 (cases h;cases hx with|iW a=>obtain⟨e1,e2⟩:=empty (.slice (some a) 0 0) (.inl ⟨_,_,rfl⟩);exact⟨e1,fun size _=>e2 size⟩);{rename_i β xc off n;split at h;rotate_left;cases h;rename_i qt sz es hb;split at h<;>cases h;rename_i jy;cases hx with|row _ _ _ _ _ b ho jo hk hv hh=>rw[hb]at jo;cases jo;obtain⟨h1,h2⟩:=hh _ _ _ rfl jy;have hln:((es.drop off).take n).length=n:=v?;cases hn:qt;rw[hn]at h2 hb;simp only[wA,if_false]at h2;obtain⟨a,rfl,oL,eQ,Qi⟩:=h2;obtain⟨ab,ao,Dw⟩:=a;simp only at oL eQ Qi;subst oL eQ;refine⟨by rw[hln];simp[Builtin.lenOf],fun size hs=>?_⟩;by_cases Gk:n=0;subst Gk;have:(es.drop off).take 0=[]:=z?;rw[this];exact(empty _ (.inl ⟨_,_,rfl⟩)).2 size;(obtain⟨vs,elem,fz,g1,g2,g3,g4,g5,g6,g7,g8⟩:=hi.row hb;have ON:=Qi o?;subst ON;have oM:rn=size:=by rcases hs with h|h;exact h;rw[h]at hln;simp at hln;omega);(subst oM;have pR: ∀(i:Nat) e,((es.drop off).take n)[i]? =some e->i<n/\es[off+i]? =some e:=by intro i e VA;have:=(qF VA).1;have dE:i<n:=o?;rw[Y? dE,w!]at VA;exact⟨dE,VA⟩);(have hmul:off*rn+n*rn<=es.length*rn:=by rw[<- M?];exact mulR _ h1);have hmul2:es.length*rn<=(ι β).cap*rn:=mulR _ g5;rw[hln];refine⟨((E? (n*rn)).map fun j=>(vs[off*rn+j]?).getD undef).toArray, ?_,z?,fun e he=>?_,fun i e j p VA hj=>?_,fun i e j p VA hj=>?_⟩;simp only[Builtin.firstCells];refine run_loadCells _ _ _ _ fun j hj=>?_;rw[gx g1];have:off*rn+j<vs.size:=o?;simp[this];exact g6 e (z! (W? he));exact g7 _ e j p (pR i e VA).2 hj;(obtain⟨dE,OV⟩:=pR i e VA;obtain⟨v,k1,k2⟩:=g8 _ e j p OV hj;have Sq:=(qF hj).1;have he:=g6 e (z7 OV);have:(i+1)*rn<=n*rn:=mulR _ dE;rw[B?]at this;refine⟨v, ?_,k2⟩;have e1:off*rn+(i*rn+j)=(off+i)*rn+j:=by rw[M?];omega);simp only[I?,X?];rw[f_ o?];simp only[F!,e1,k1,c!];rw[hn]at h2 hb;have de:es=[]:=hi.rk β _ hb;subst de;simp only[if_true]at h2;subst h2;have:(([]:List (List PV)).drop off).take n=[]:=z?;rw[this];obtain⟨e1,e2⟩:=empty (.slice none 0 0) (.inr ⟨_,rfl⟩);exact⟨e1,fun size _=>e2 size⟩}
 ·rename_i s;cases h;cases hx with
  |pv _ _ h=>cases h with
   |str l=>
    refine⟨by simp[Builtin.lenOf,ByteArray.size],fun size hs=>?_⟩;refine⟨(s.map fun b=>Value.int .u8 b.toNat).toArray, ?_, ?_, ?_⟩
    ·simp only[Builtin.firstCells,m_];have:(ByteArray.mk ⟨s⟩).extract 0 s.length=⟨⟨s⟩⟩:=by
      apply ByteArray.ext;simp
     rw[this];simp
    ·rcases hs with rfl|h
     ·simp
     have:s=[]:=by simpa using h
     subst this;simp
    rcases hs with rfl|h
    ·refine⟨fun e he=>?_,fun i e j p yv hj=>?_,fun i e j p yv hj=>?_⟩
     ·simp only[N?]at he;obtain⟨b,_,rfl⟩:=he;rfl
     ·simp only[X?,yS]at yv;obtain⟨b,_,rfl⟩:=yv;cases j with
      |zero=>simp at hj;subst hj;rfl
      |succ j=>simp at hj
     simp only[X?,yS]at yv;obtain⟨b,hb,rfl⟩:=yv;cases j with
     |zero=>
      simp at hj;subst hj;exact⟨.int .u8 b.toNat,by simp[hb],.int _ _⟩
     |succ j=>simp at hj
    have:s=[]:=by simpa using h
    subst this;simp[xM]
 cases h
end
section
variable [xd] {P:Program} {w:World} {H:qp} {ι:yp} {Im:Nat->Prop}
theorem Yi(XP:Nat): ∀(r c:Nat),c<=XP+(XP+768) / 4->Builtin.growBy XP r c<=XP+(XP+768) / 4
 |0,c,h=>h
 |r+1,c,h=>by simp only[Builtin.growBy];split;exact h;exact Yi XP r _ o?
theorem nextslicecap_le{zz cap:Nat}(h:cap<zz):Builtin.nextslicecap zz cap<=2*zz+192:=by unfold Builtin.nextslicecap;split;omega;split;omega;have:=Yi zz 4 cap o?;omega
theorem M5{zz bytes:Nat}(h:qg zz bytes=true){cap:Nat}(hc:cap<zz):
  Builtin.nextslicecap zz cap*bytes<=2^48/\(zz:Int)<=q?.max:=by
 unfold qg at h;simp only[zQ,decide_eq_true_eq]at h;obtain⟨⟨h1,h2⟩,h3⟩:=h;refine⟨?_, ?_⟩
 ·have:=nextslicecap_le hc
  calc Builtin.nextslicecap zz cap*bytes<=(2*zz+192)*bytes:=mulR _ this
   _=2*(zz*bytes)+192*bytes:=by rw[M?,Nat.mul_assoc]
   _<=2^48:=o?
 have:q?.max=9223372036854775807:=by decide
 rw[this];omega
theorem xM.append{sz:Nat}{Z2 es2:List (List PV)}{DM DN rest:Array Value}(h1:xM w Im sz Z2 (DM[·]?))(h2:xM w Im sz es2 (DN[·]?))
  (hl:DM.size=Z2.length*sz):xM w Im sz (Z2++es2) ((DM++DN++rest)[·]?):=by
 have UW: ∀(i:Nat) e(j:Nat) p,Z2[i]? =some e->e[j]? =some p->i*sz+j<DM.size:=by intro i e j p hi hj;have xQ:=(qF hi).1;have Sq:=(qF hj).1;have he:=h1.1 e (z7 hi);have:(i+1)*sz<=Z2.length*sz:=mulR _ xQ;rw[B?]at this;omega
 have split: ∀(i:Nat) e,(Z2++es2)[i]? =some e->(Z2[i]? =some e)\/(Z2.length<=i/\es2[i-Z2.length]? =some e):=by intro i e h;rw[M!]at h;split at h;exact .inl h;exact .inr ⟨o?,h⟩
 refine⟨fun e he=>?_,fun i e j p hi hj=>?_,fun i e j p hi hj=>?_⟩;rcases m?.1 he with h|h;exact h1.1 e h;exact h2.1 e h;rcases split i e hi with h|⟨_,h⟩;exact h1.2.1 i e j p h hj;exact h2.2.1 _ e j p h hj;rcases split i e hi with h|⟨hle,h⟩;obtain⟨v,g1,g2⟩:=h1.2.2 i e j p h hj;refine⟨v, ?_,g2⟩;have:=UW i e j p h hj;simp only[M'];rw[G! this];exact g1;obtain⟨v,g1,g2⟩:=h2.2.2 _ e j p h hj;refine⟨v, ?_,g2⟩;have e1:i*sz+j=DM.size+((i-Z2.length)*sz+j):=by rw[hl];have:i=Z2.length+(i-Z2.length):=o?;(conv=>lhs;rw[this,M?]);omega
 have xQ:(i-Z2.length)*sz+j<DN.size:=by rcases O_ ((i-Z2.length)*sz+j) DN.size with h|h;exact h;have:DN[(i-Z2.length)*sz+j]? =none:=k_ h;simp only[this]at g1;cases g1
 show(DM++DN++rest)[i*sz+j]? =some v;rw[e1,G! v?,B_ o?];simpa using g1
theorem mi.append{sz:Nat}{Z2 es2:List (List AV)}{DM DN rest:Array Value}(h1:mi w H ι Im sz Z2 (DM[·]?))(h2:mi w H ι Im sz es2 (DN[·]?))
  (hl:DM.size=Z2.length*sz):mi w H ι Im sz (Z2++es2) ((DM++DN++rest)[·]?):=by
 have UW: ∀(i:Nat) e(j:Nat) p,Z2[i]? =some e->e[j]? =some p->i*sz+j<DM.size:=by intro i e j p hi hj;have xQ:=(qF hi).1;have Sq:=(qF hj).1;have he:=h1.1 e (z7 hi);have:(i+1)*sz<=Z2.length*sz:=mulR _ xQ;rw[B?]at this;omega
 have split: ∀(i:Nat) e,(Z2++es2)[i]? =some e->(Z2[i]? =some e)\/(Z2.length<=i/\es2[i-Z2.length]? =some e):=by intro i e h;rw[M!]at h;split at h;exact .inl h;exact .inr ⟨o?,h⟩
 refine⟨fun e he=>?_,fun i e j p hi hj=>?_,fun i e j p hi hj=>?_⟩;rcases m?.1 he with h|h;exact h1.1 e h;exact h2.1 e h;rcases split i e hi with h|⟨_,h⟩;exact h1.2.1 i e j p h hj;exact h2.2.1 _ e j p h hj;rcases split i e hi with h|⟨hle,h⟩;obtain⟨v,g1,g2⟩:=h1.2.2 i e j p h hj;refine⟨v, ?_,g2⟩;have:=UW i e j p h hj;simp only[M'];rw[G! this];exact g1;obtain⟨v,g1,g2⟩:=h2.2.2 _ e j p h hj;refine⟨v, ?_,g2⟩;have e1:i*sz+j=DM.size+((i-Z2.length)*sz+j):=by rw[hl];have:i=Z2.length+(i-Z2.length):=o?;(conv=>lhs;rw[this,M?]);omega
 have xQ:(i-Z2.length)*sz+j<DN.size:=by rcases O_ ((i-Z2.length)*sz+j) DN.size with h|h;exact h;have:DN[(i-Z2.length)*sz+j]? =none:=k_ h;simp only[this]at g1;cases g1
 show(DM++DN++rest)[i*sz+j]? =some v;rw[e1,G! v?,B_ o?];simpa using g1
def vn(w:World):World:={ w with drawn:=w.drawn+1 }
theorem px{ts tx e:TypeId}{ti te oI:TI}(K5:zM P ts ti)(ju:ti.td= .slice e)(dw:zM P e te)(Ji:zM P tx oI)
  (ZS:(∃ e',oI.td= .slice e')\/oI.td= .string) (tt:TypeId) (base:Option Addr) (n cap k:Nat) (v:Value)
  (hlen:(Builtin.lenOf v).run P w= .ok k w) (MH:cap<n+k) (gU:qg (n+k) te.bytes=true)
  (Nu new:Array Value)
  (ho:(Builtin.firstCells te.size n (.slice base n cap)).run P (vn w)= .ok Nu (vn w))
  (hn:(Builtin.firstCells te.size k v).run P (vn w)= .ok new (vn w)):
  ∃(dZ:Nat)(rest:Array Value),n+k<=dZ/\rest.size=(dZ-(n+k))*te.size/\
   (Builtin.append_ #[ts,tx] tt #[.slice base n cap,v]).run P w=
    .ok (.slice (some ⟨w.heap.size,0,none⟩) (n+k) dZ) { vn w with heap:=w.heap.push (.cells (Nu++new++rest) e) }:=by
 obtain⟨i,z,q1,q2,q3,q4,q5,q6⟩:=dw.info;obtain⟨r1,r2⟩:=M5 gU MH;have hzl:z.cells.size=te.size:=by have:=(X8 (w:=w) (Im:=fun _=>True) q5).1;have:=dw.len;simp at*;omega
 let nc:Nat:=Question.cut (.appendCap (n+k) cap e) (w.tape w.drawn (.appendCap (n+k) cap e));have hnc:n+k<=nc:=by simp[nc,Question.cut]
 refine⟨nc,Builtin.zeroCells z.cells (nc-(n+k)),hnc,by simp[Builtin.zeroCells,hzl], ?_⟩;have hzero:(zeroValue e).run P (vn w)= .ok z (vn w):=by simp[zeroValue,gT q1,q4]
 have hno1: ¬(n+k<=cap):=o?;have hno3: ¬(Builtin.nextslicecap (n+k) cap*te.bytes>2^48):=o?;have hno2: ¬(((n+k:Nat):Int)>q?.max):=o?;have htxx:P.underlying tx=some .string\/ ∃e',P.underlying tx=some (.slice e'):=by rcases ZS with ⟨e',h⟩|h;exact .inr ⟨_,Ji.slice h⟩;exact .inl (Ji.string h)
 have Vy:(choose (Question.appendCap (n+k) cap e)).run P w= .ok nc (vn w):=by simp[choose,G_,Question.forced,nc,vn]
 have l8: ∀w',(typeInfo e).run P w' = .ok i w' :=fun w' =>gT q1;rw[<- q3]at hno3;unfold Builtin.append_;rcases htxx with hd|⟨e',hd⟩;all_goals
  simp only[I?,a?,l?,jR,qx (K5.slice ju),md,dw.size,qx hd,K?,hlen,
   wA,if_false,hno1,l8,hno2,false_and,hno3,Vy,run_askRoom,ho,q15,if_true,hn,hzero,newRow,run_newObj]
  rfl
theorem run_append_fits{ts tx e:TypeId}{ti te oI:TI}(K5:zM P ts ti)(ju:ti.td= .slice e)(dw:zM P e te)(Ji:zM P tx oI)
  (ZS:(∃ e',oI.td= .slice e')\/oI.td= .string) (tt:TypeId) (base:Option Addr) (n cap k:Nat) (v:Value)
  (hlen:(Builtin.lenOf v).run P w= .ok k w) (hle:n+k<=cap) (new:Array Value) (hnew:(Builtin.firstCells te.size k v).run P w= .ok new w) (w' :World)
  (Z5: ∀a,base=some a->(storeCells (a.add (n*te.size)) new.toList).run P w= .ok () w') (Yl:base=none->w' =w):
  (Builtin.append_ #[ts,tx] tt #[.slice base n cap,v]).run P w= .ok (.slice base (n+k) cap) w' :=by
 have htxx:P.underlying tx=some .string\/ ∃e',P.underlying tx=some (.slice e'):=by rcases ZS with ⟨e',h⟩|h;exact .inr ⟨_,Ji.slice h⟩;exact .inl (Ji.string h)
 unfold Builtin.append_;rcases htxx with hd|⟨e',hd⟩;all_goals
  simp only[I?,a?,l?,jR,qx (K5.slice ju),md,dw.size,qx hd,K?,hlen,
   wA,if_false,hle,q15,if_true,hnew]
  cases base with
  |none=>rw[Yl rfl];rfl
  |some a=>simp only[jR,Z5 a rfl,md,K?]
theorem Je{ts tx e:TypeId}{ti te oI:TI}(K5:zM P ts ti)(ju:ti.td= .slice e)(dw:zM P e te)(Ji:zM P tx oI)
  (ZS:(∃ e',oI.td= .slice e')\/oI.td= .string) (tt:TypeId) (hi:zd w H ι Im) {y:AV} {vy:Value} (hy:RA w H ι Im y vy)
  {rn:Nat} {src:List (List PV)} (rE:yH y H=some (rn,src)) (mq:rn=te.size\/src=[]) (jx:src≠[]) (gU:qg src.length te.bytes=true)
  (base:Option Addr):
  ∃(dZ:Nat)(w' :World)(cs:Array Value),src.length<=dZ/\(w'.heap=w.heap.push (.cells cs e)/\w'.os=w.os/\w'.output=w.output)/\cs.size=dZ*te.size/\xM w Im te.size src (cs[·]?)/\
   (Builtin.append_ #[ts,tx] tt #[.slice base 0 0,vy]).run P w= .ok (.slice (some ⟨w.heap.size,0,none⟩) src.length dZ) w' :=by
 obtain⟨l1,l2⟩:=tG (P:=P) hi hy rE;have pT:0<src.length:=q!.2 jx;have hw:(vn w).heap=w.heap:=rfl;obtain⟨new,k1,k2,k3⟩:=(tG (P:=P) (hi.bK hw ⟨rfl,rfl⟩) (hy.bK hw ⟨rfl,rfl⟩ hi) rE).2 te.size mq;obtain⟨nc,rest,g1,g3,g4⟩:=px (w:=w) K5 ju dw Ji ZS tt base 0 0 src.length vy l1 o? (by simpa using gU) #[] new
  (by
   cases base with
   |none=>simp[Builtin.firstCells]
   |some a=>simp[Builtin.firstCells,loadCells,loadCellsFrom]) k1
 have JP:xM (vn w) Im te.size [] (((#[]:Array Value))[·]?):=by simp[xM]
 have eu:=xM.append (rest:=rest) JP k3 z?;refine⟨nc, { vn w with heap:=w.heap.push (.cells (new++rest) e) },_,o?,⟨rfl,rfl,rfl⟩, ?_, ?_,by simpa using g4⟩;simp only[Q_,k2,g3];simp only[A?,q0n];rw[<- M?];congr 1;omega;have:=eu.mono (w' :=w) (jT:=Im) (fun _ h=>h) (fun b _=>by rw[hw]);simpa using this
theorem take_all{α:Type}(es src:List α){n:Nat}(h:n=es.length):es.take n++src++es.drop (n+src.length)=es++src:=by subst h;simp[v_]
theorem Qm(hi:zd w H ι Im){x:AV}{v:Value}(hx:RA w H ι Im x v){rn:Nat}{src:List (List AV)}(h:Q1 x H=some (rn,src)):
  (Builtin.lenOf v).run P w= .ok src.length w/\
  ∃cs,(Builtin.firstCells rn src.length v).run P w= .ok cs w/\cs.size=src.length*rn/\mi w H ι Im rn src (cs[·]?):=by unfold Q1 at h;split at h;rotate_left;cases h;rename_i β xc off n;split at h;rotate_left;cases h;rename_i sz es hb;split at h<;>cases h;rename_i jy;cases hx with|row _ _ _ _ _ b ho jo hk hv hh=>rw[hb]at jo;cases jo;obtain⟨h1,h2⟩:=hh _ _ _ rfl jy;have hln:((es.drop off).take n).length=n:=v?;simp only[wA,if_false]at h2;obtain⟨a,rfl,oL,eQ,Qi⟩:=h2;obtain⟨ab,ao,Dw⟩:=a;simp only at oL eQ Qi;subst oL eQ;refine⟨by rw[hln];simp[Builtin.lenOf], ?_⟩;by_cases Gk:n=0;subst Gk;refine⟨#[], ?_,z?,by simp[mi]⟩;simp[Builtin.firstCells,loadCells,loadCellsFrom];(obtain⟨vs,elem,fz,g1,g2,g3,g4,g5,g6,g7,g8⟩:=hi.mz hb;have ON:=Qi o?;subst ON;have pR: ∀(i:Nat) e,((es.drop off).take n)[i]? =some e->i<n/\es[off+i]? =some e:=by intro i e VA;have:=(qF VA).1;have dE:i<n:=o?;rw[Y? dE,w!]at VA;exact⟨dE,VA⟩);(have hmul:off*rn+n*rn<=es.length*rn:=by rw[<- M?];exact mulR _ h1);have hmul2:es.length*rn<=(ι β).cap*rn:=mulR _ g5;rw[hln];refine⟨((E? (n*rn)).map fun j=>(vs[off*rn+j]?).getD undef).toArray, ?_,z?,fun e he=>?_,fun i e j p VA hj=>?_,fun i e j p VA hj=>?_⟩;simp only[Builtin.firstCells];refine run_loadCells _ _ _ _ fun j hj=>?_;rw[gx g1];have:off*rn+j<vs.size:=o?;simp[this];exact g6 e (z! (W? he));exact g7 _ e j p (pR i e VA).2 hj;(obtain⟨dE,OV⟩:=pR i e VA;obtain⟨v,k1,k2⟩:=g8 _ e j p OV hj;have Sq:=(qF hj).1;have he:=g6 e (z7 OV);have:(i+1)*rn<=n*rn:=mulR _ dE;rw[B?]at this;refine⟨v, ?_,k2⟩;have e1:off*rn+(i*rn+j)=(off+i)*rn+j:=by rw[M?];omega);simp only[I?,X?];rw[f_ o?];simp only[F!,e1,k1,c!]
theorem UR{ts tx e:TypeId}{ti te oI:TI}(K5:zM P ts ti)(ju:ti.td= .slice e)(dw:zM P e te)(Ji:zM P tx oI)
  (ZS:(∃ e',oI.td= .slice e')\/oI.td= .string) (tt:TypeId) (hi:zd w H ι Im) {y:AV} {vy:Value} (hy:RA w H ι Im y vy)
  {src:List (List AV)} (rE:Q1 y H=some (te.size,src)) (jx:src≠[]) (gU:qg src.length te.bytes=true):
  ∃(dZ:Nat)(w' :World)(cs:Array Value),src.length<=dZ/\(w'.heap=w.heap.push (.cells cs e)/\w'.os=w.os/\w'.output=w.output)/\cs.size=dZ*te.size/\mi w H ι Im te.size src (cs[·]?)/\
   (Builtin.append_ #[ts,tx] tt #[.slice none 0 0,vy]).run P w= .ok (.slice (some ⟨w.heap.size,0,none⟩) src.length dZ) w' :=by
 obtain⟨l1,l2⟩:=Qm (P:=P) hi hy rE;have pT:0<src.length:=q!.2 jx;have hw:(vn w).heap=w.heap:=rfl;have yv:=hi.bK hw ⟨rfl,rfl⟩;obtain⟨new,k1,k2,k3⟩:=(Qm (P:=P) yv (hy.bK hw ⟨rfl,rfl⟩ hi) rE).2;obtain⟨nc,rest,g1,g3,g4⟩:=px (w:=w) K5 ju dw Ji ZS tt none 0 0 src.length vy l1 o? (by simpa using gU) #[] new (by simp[Builtin.firstCells]) k1;have JP:mi (vn w) H ι Im te.size [] (((#[]:Array Value))[·]?):=by simp[mi]
 have eu:=mi.append (rest:=rest) JP k3 z?;refine⟨nc, { vn w with heap:=w.heap.push (.cells (new++rest) e) },_,o?,⟨rfl,rfl,rfl⟩, ?_, ?_,by simpa using g4⟩;simp only[Q_,k2,g3];simp only[A?,q0n];rw[<- M?];congr 1;omega;have:=eu.mono (w' :=w) (H' :=H) (ι' :=ι) (jT:=Im) yv (wU.bK (w:=vn w) (w' :=w) rfl ⟨rfl,rfl⟩);simpa using this
theorem GR{ts tx e:TypeId}{ti te oI:TI}(K5:zM P ts ti)(ju:ti.td= .slice e)(dw:zM P e te)(Ji:zM P tx oI)
  (ZS:(∃ e',oI.td= .slice e')\/oI.td= .string) (tt:TypeId) (hi:zd w H ι Im) {nx:Nat} {X:Nat->Prop} (xV:Bd X H nx)
  {x y:AV} {vx vy:Value} (hx:RA w H ι Im x vx) (hy:RA w H ι Im y vy) {r:mA} (hr:mE te x y H nx=some r) (hX: ∀γ,X γ->r.2.2<=γ):
  ∃u w',(Builtin.append_ #[ts,tx] tt #[vx,vy]).run P w= .ok u w' /\tj X w H ι Im nx r u w' :=by unfold mE at hr;cases hr
theorem Pd{ts tx e:TypeId}{ti te oI:TI}(K5:zM P ts ti)(ju:ti.td= .slice e)(dw:zM P e te)(Ji:zM P tx oI)
  (ZS:(∃ e',oI.td= .slice e')\/oI.td= .string) (tt:TypeId) (hi:zd w H ι Im) {nx:Nat} {X:Nat->Prop} (xV:Bd X H nx)
  {x y:AV} {vx vy:Value} (hx:RA w H ι Im x vx) (hy:RA w H ι Im y vy) {r:mA} (hr:uU te x y H nx=some r) (hX: ∀γ,X γ->r.2.2<=γ):
  ∃u w',(Builtin.append_ #[ts,tx] tt #[vx,vy]).run P w= .ok u w' /\tj X w H ι Im nx r u w' :=by
 unfold uU at hr;split at hr
 ·exact GR K5 ju dw Ji ZS tt hi xV hx hy hr hX
 rename_i rn src rE;split at hr;rotate_left
 ·cases hr
 rename_i hc;obtain⟨mq,pT⟩:=hc;obtain⟨l1,l2⟩:=tG (P:=P) hi hy rE;obtain⟨cs,f1,f2,f3⟩:=l2 te.size mq;have none0: ∀(base:Option Addr),RA w H ι Im x (.slice base 0 0)->src=[]->
   ∃u w',(Builtin.append_ #[ts,tx] tt #[.slice base 0 0,vy]).run P w= .ok u w' /\tj X w H ι Im nx (x,[],nx) u w' :=by
  intro base hxv hs;subst hs;refine⟨_,w,run_append_fits K5 ju dw Ji ZS tt base 0 0 0 vy l1 (jv _) cs f1 w (fun a ha=>?_) (fun _=>rfl),tj.pure hi xV hxv⟩;have:cs.toList=[]:=by
   have:cs.size=0:=by simpa using f2
   simpa using this
  rw[this];rfl
 have fresh: ∀(base:Option Addr),RA w H ι Im x (.slice base 0 0)->
   jV te x src nx nx (nx+1)=some r->
   ∃u w',(Builtin.append_ #[ts,tx] tt #[.slice base 0 0,vy]).run P w= .ok u w' /\tj X w H ι Im nx r u w' :=by
  intro base hxv hr;unfold jV at hr;split at hr
  ·cases hr;exact none0 base hxv rfl
  split at hr<;>cases hr;rename_i gU;obtain⟨nc,w',cs',g1,g2,g3,g4,g5⟩:=Je K5 ju dw Ji ZS tt hi hy rE mq z? gU base;exact⟨_,w',g5,Ka hi xV (aP hX) te.size _ cs' e (0,0) nc w' g2.1 g2.2 (kf _) pT g3 g1 g4⟩
 split at hr
 ·cases hx with
  |pv _ _ h=>cases h with
   |aO=>exact fresh none (.pv _ _ (.aO _)) hr
 ·cases hx with
  |iW a=>exact fresh _ (.iW a) hr
 ·rename_i β xc off n;split at hr
  ·rename_i sz es hb;split at hr;rotate_left
   ·cases hr
   rename_i hc;obtain⟨jy,oZ,hn⟩:=hc;subst oZ hn;have hxx:=hx;cases hx with
   |row _ _ _ _ _ b ho jo hk hv hh=>
   rw[hb]at jo;cases jo;obtain⟨h1,h2⟩:=hh _ _ _ rfl jy;simp only[if_true]at h2;subst h2;have de:es=[]:=hi.rk β _ hb;subst de;unfold jV at hr;split at hr
   ·cases hr;exact none0 none hxx rfl
   rename_i a0 l0;split at hr<;>cases hr;rename_i gU;obtain⟨nc,w',cs',g1,g2,g3,g4,g5⟩:=Je K5 ju dw Ji ZS tt hi hy rE mq z? gU none;refine⟨_,w',g5,jW ι β ⟨w.heap.size,nc,[]⟩, ?_⟩;have key:=zd.put (Xn:=noO hb rfl) hi (w' :=w') β (.row false te.size (a0::l0)) ⟨w.heap.size,nc,[]⟩ (fun x hx=>by rw[hb]at hx;cases hx;simp[xN,qD.sh,Pl.kF])
    ⟨by rw[g2.1];simp,g2.2⟩ (fun b' jo _=>by rw[g2.1];simp[d_,L_ jo]) (fun _=> .inl (jv _)) (fun he=>by
     have hk: ∀b,Im b->w'.heap[b]? =w.heap[b]? :=fun b hb=>he.bc hi b hb
     obtain⟨k1,k2,k3⟩:=g4.mono he.im hk
     exact⟨cs',e,(0,0),by simp[g2],kf _,by simp[g3],pT,by simpa using g1,k1,k2,k3⟩)
   refine⟨key.1,key.2, ?_,jv _,yT xV (jv _) (xV β _ hb)⟩;have hg:(z6 [(β,qD.row false te.size (a0::l0))] H).get β=some (.row false te.size (a0::l0)):=by simp[z6,qp.zg]
   refine .row β _ 0 _ _ _ rfl hg (fun _=>⟨_,_,_,rfl⟩) (fun _ _ _ e=>by cases e;exact jv _) fun _ _ _ e _=>?_;cases e;refine⟨z?, ?_⟩;simp only[wA,if_false];exact⟨⟨w.heap.size,0,none⟩,z?,rfl,z?,fun _=>z?⟩
  ·rename_i sz es hb;split at hr;rotate_left
   ·cases hr
   rename_i hc;obtain⟨jy,hszz,oZ,gU⟩:=hc;subst oZ hszz;have hr' :r=(.row β (es.take n++src++es.drop (n+src.length)).length 0 (n+src.length),[(β,.row false te.size (es.take n++src++es.drop (n+src.length)))],nx):=by
    split at hr<;>cases hr
    ·rename_i hn;rw[take_all es src hn,hn];simp
    rfl
   subst hr';clear hr;cases hx with
   |row _ _ _ _ _ b ho jo hk hv hh=>
   rw[hb]at jo;cases jo;obtain⟨h1,h2⟩:=hh _ _ _ rfl jy;simp only[wA,if_false]at h2;obtain⟨a,rfl,oL,eQ,Qi⟩:=h2;obtain⟨ab,ao,Dw⟩:=a;simp only at oL eQ Qi;subst oL eQ;obtain⟨vs,elem,fz,g1,g2,g3,g4,g5,g6,g7,g8⟩:=hi.row hb;have hes' :(es.take n++src++es.drop (n+src.length)).length=max es.length (n+src.length):=by
    simp;omega
   by_cases sw:n+src.length<=(ι β).cap
   ·
    have ON:src≠[]->ao=0:=fun jx=>by
     have:=q!.2 jx;have:=Qi o?;omega
    have ot: ∀x∈cs.toList,dx x=true:=by
     intro x hx;obtain⟨m,hm⟩:=kh hx;have Vc:m<src.length*te.size:=by
      have:=(qF hm).1;simp at this;omega
     have hdiv:m / te.size<src.length:=T' (by rwa[X!]);have hmod:m % te.size<te.size:=q1r _ pT;obtain⟨e0,MF⟩: ∃e0,src[m / te.size]? =some e0:=⟨src[m / te.size],z?⟩;have MG:=f3.1 e0 (z7 MF);obtain⟨p0,hp0⟩: ∃p0,e0[m % te.size]? =some p0:=⟨e0[m % te.size]'(o?),z?⟩;obtain⟨v0,q1,q2⟩:=f3.2.2 _ e0 _ p0 MF hp0;have:m / te.size*te.size+m % te.size=m:=by rw[X!];exact q16 m te.size
     simp only[this]at q1;have:x=v0:=by
      have h0:cs[m]? =some x:=by simpa using hm
      rw[h0]at q1;exact Option.some.inj q1
     subst this;exact q2.dx (f3.2.1 _ e0 _ p0 MF hp0)
    have hmul:n*te.size+src.length*te.size<=vs.size:=by
     rw[g3,<- M?];exact mulR _ sw
    have Z5: ∃w',(storeCells ⟨(ι β).b,ao+n*te.size,none⟩ cs.toList).run P w=R' () w' /\(w'.heap.size=w.heap.size/\w'.os=w.os/\w'.output=w.output)/\(∀ b',b' ≠(ι β).b->w'.heap[b']? =w.heap[b']?)/\
      ∃eg:Array Value,w'.heap[(ι β).b]? =some (.cells eg elem fz)/\eg.size=vs.size/\ ∀k,eg[k]? =if n*te.size<=k/\k<n*te.size+cs.size then cs[k-n*te.size]? else vs[k]? :=by
     by_cases hs:src=[]
     ·have hcs0:cs.size=0:=by rw[f2,hs];simp
      have Xl:cs.toList=[]:=by simpa using hcs0
      refine⟨w,by rw[Xl];rfl,⟨rfl,rfl,rfl⟩,fun _ _=>rfl,vs,g1,rfl,fun k=>?_⟩;rw[if_neg o?]
     have:=ON hs;subst this;obtain⟨w',q1,q2,q3,eg,q4,q5,q6⟩:=uH (P:=P) (ι β).b (n*te.size) elem fz cs.toList 0 w vs g1 g2 (by simp[f2];omega) ot;refine⟨w',by simpa using q1,q2,q3,eg,q4,q5,fun k=>?_⟩;rw[q6 k];simp
    obtain⟨w',q1,q2,q3,eg,q4,q5,q6⟩:=Z5;have T8:=run_append_fits (w' :=w') K5 ju dw Ji ZS tt (some ⟨(ι β).b,ao,none⟩) n ((ι β).cap-0) src.length vy l1 o? cs f1
     (fun a ha=>by cases ha;rw[add_plain];exact q1) (fun h=>by cases h)
    refine⟨_,w',T8,jW ι β (ι β), ?_⟩;have key:=zd.put (Xn:=noO hb rfl) hi (w' :=w') β (.row false te.size (es.take n++src++es.drop (n+src.length))) (ι β)
     (fun x hx=>by
      rw[hb]at hx
      cases hx
      simp only[xN,qD.sh]
      exact⟨o?,fun _=>⟨z?,fun _=>⟨z?,Pl.XX _⟩⟩⟩)
     ⟨o?,q2.2⟩ (fun b' _ jx=>q3 b' (fun e=>jx _ hb rfl e.symm)) (fun _=> .inr ⟨_,hb,rfl,rfl⟩) (fun mI=>by
      have hw: ∀b,Im b->w'.heap[b]? =w.heap[b]? :=fun b hb=>mI.bc hi b hb
      have pR: ∀(i:Nat) e0,(es.take n++src++es.drop (n+src.length))[i]? =some e0->
        (n<=i/\i<n+src.length/\src[i-n]? =some e0)\/(¬ (n<=i/\i<n+src.length)/\es[i]? =some e0):=by
       intro i e0 h
       by_cases hn:n+src.length<=es.length
       ·rw[kL es src n i hn]at h
        split at h
        ·rename_i hc
         exact .inl ⟨hc.1,hc.2,h⟩
        rename_i hc
        exact .inr ⟨hc,h⟩
       rw[v_ o?,List.append_nil,M!]at h
       have htl:(es.take n).length=n:=v?
       rw[htl]at h
       split at h
       ·rename_i hc
        rw[Y? hc]at h
        exact .inr ⟨o?,h⟩
       rename_i hc
       have:=(qF h).1
       exact .inl ⟨o?,o?,h⟩
      refine⟨eg,elem,fz,by simpa using q4,by rw[q5];exact g2,by simp[q5,g3],pT,by simp only[wS];omega, ?_, ?_, ?_⟩
      ·intro e0 MF
       obtain⟨i,yv⟩:=kh MF
       rcases pR i e0 yv with ⟨_,_,h⟩|⟨_,h⟩
       ·exact f3.1 e0 (z7 h)
       exact g6 e0 (z7 h)
      ·intro i e0 j p yv hj
       rcases pR i e0 yv with ⟨_,_,h⟩|⟨_,h⟩
       ·exact f3.2.1 _ e0 j p h hj
       exact g7 _ e0 j p h hj
      intro i e0 j p yv hj
      have Sq:=(qF hj).1
      rw[q6]
      rcases pR i e0 yv with ⟨k1,k2,h⟩|⟨k1,h⟩
      ·obtain⟨v0,w1,w2⟩:=f3.2.2 _ e0 j p h hj
       have MG:=f3.1 e0 (z7 h)
       have e1:i*te.size+j-n*te.size=(i-n)*te.size+j:=by
        have:i=n+(i-n):=o?
        conv=>lhs;rw[this,M?]
        omega
       have e2:n*te.size<=i*te.size:=mulR _ k1
       have e3:(i+1)*te.size<=(n+src.length)*te.size:=mulR _ k2
       rw[B?,M?]at e3
       rw[if_pos ⟨o?,by rw[f2];omega⟩,e1]
       exact⟨v0,w1,w2.mono mI.im hw⟩
      obtain⟨v0,w1,w2⟩:=g8 _ e0 j p h hj
      have MG:=g6 e0 (z7 h)
      have lK: ¬(n*te.size<=i*te.size+j/\i*te.size+j<n*te.size+cs.size):=by
       rw[f2]
       by_cases xQ:i<n
       ·have:(i+1)*te.size<=n*te.size:=mulR _ xQ
        rw[B?]at this
        omega
       have:(n+src.length)*te.size<=i*te.size:=mulR _ o?
       rw[M?]at this
       omega
      rw[if_neg lK]
      exact⟨v0,w1,w2.mono mI.im hw⟩)
    refine⟨key.1,key.2, ?_,jv _,yT xV (jv _) (xV β _ hb)⟩;have hg:(z6 [(β,qD.row false te.size (es.take n++src++es.drop (n+src.length)))] H).get β=some (.row false te.size (es.take n++src++es.drop (n+src.length))):=by simp[z6,qp.zg]
    refine .row β _ 0 _ _ _ rfl hg (fun _=>⟨_,_,_,rfl⟩) (fun _ _ _ e=>by cases e;exact jv _) fun _ _ _ e _=>?_;cases e;refine⟨o?, ?_⟩;simp only[wA,if_false];refine⟨⟨(ι β).b,ao,none⟩,z?,rfl,z?,fun hc=>?_⟩;simp only[wS]at hc;have:=Qi hc;simpa using this
   have oZ:es.drop (n+src.length)=[]:=v_ o?;have hw:(vn w).heap=w.heap:=rfl;have hself:yH (.row β xc 0 n) H=some (te.size,es.take n):=by
    simp[yH,hb,jy]
   have hxx:RA w H ι Im (.row β xc 0 n) (.slice (some ⟨(ι β).b,ao,none⟩) n ((ι β).cap-0)):=
    .row β xc 0 n _ _ rfl hb hk hv hh
   have htl:(es.take n).length=n:=v?;obtain⟨Nu,k1,k2,k3⟩:=(tG (P:=P) (hi.bK hw ⟨rfl,rfl⟩) (hxx.bK hw ⟨rfl,rfl⟩ hi) hself).2 te.size (.inl rfl);obtain⟨new,m1,m2,m3⟩:=(tG (P:=P) (hi.bK hw ⟨rfl,rfl⟩) (hy.bK hw ⟨rfl,rfl⟩ hi) rE).2 te.size mq;rw[htl]at k1 k2;obtain⟨nc,rest,r1,r2,r3⟩:=px (w:=w) K5 ju dw Ji ZS tt (some ⟨(ι β).b,ao,none⟩) n ((ι β).cap-0) src.length vy l1 o? gU Nu new k1 m1;have eu:=xM.append (rest:=rest) k3 m3 (by rw[k2,htl]);have hrow' :=eu.mono (w' :=w) (jT:=Im) (fun _ h=>h) (fun b _=>by rw[hw]);have hes2:es.take n++src++es.drop (n+src.length)=es.take n++src:=by rw[oZ];simp
   rw[hes2]at hes' |-;refine⟨_,_,r3,jW ι β ⟨w.heap.size,nc,[]⟩, ?_⟩;have OZ:(es.take n++src).length=n+src.length:=v?;have key:=zd.put (Xn:=noO hb rfl) hi (w' :={ vn w with heap:=w.heap.push (.cells (Nu++new++rest) e) }) β (.row false te.size (es.take n++src)) ⟨w.heap.size,nc,[]⟩
    (fun x hx=>by
     rw[hb]at hx
     cases hx
     simp only[xN,qD.sh]
     exact⟨o?,fun h=>o?⟩)
    ⟨z?,rfl,rfl⟩ (fun b' jo _=>by simp[d_,L_ jo]) (fun _=> .inl (jv _)) (fun he=>by
     have hk: ∀b,Im b->_:=fun b hb=>he.bc hi b hb
     obtain⟨p1,p2,p3⟩:=hrow'.mono he.im hk
     refine⟨Nu++new++rest,e,(0,0),z?,kf _, ?_,pT,by simp only[wS];omega,p1,p2,p3⟩
     simp only[wS,Q_,k2,m2,r2,<- M?]
     congr 1
     omega)
   refine⟨key.1,key.2, ?_,jv _,yT xV (jv _) (xV β _ hb)⟩;have hg:(z6 [(β,qD.row false te.size (es.take n++src))] H).get β=some (.row false te.size (es.take n++src)):=by simp[z6,qp.zg]
   refine .row β _ 0 _ _ _ rfl hg (fun _=>⟨_,_,_,rfl⟩) (fun _ _ _ e=>by cases e;exact jv _) fun _ _ _ e _=>?_;cases e;refine⟨o?, ?_⟩;simp only[wA,if_false];exact⟨⟨w.heap.size,0,none⟩,z?,rfl,z?,fun _=>z?⟩
  cases hr
 cases hr
end
section
variable [xd] {P:Program} {w:World} {H:qp} {ι:yp} {Im:Nat->Prop}
theorem ZW(a:Addr): ∀(n i:Nat)(acc cs:Array Value),(loadCellsFrom a i n acc).run P w= .ok cs w->
  ∃l:List Value,l.length=n/\cs.toList=acc.toList++l/\ ∀m,m<=n->(loadCellsFrom a i m acc).run P w= .ok ⟨acc.toList++l.take m⟩ w
 |0,i,acc,cs,h=>by simp only[loadCellsFrom,K?,Result.ok.injEq,and_true]at h;subst h;refine⟨[],rfl,z?,fun m hm=>?_⟩;have:m=0:=o?;subst this;simp[loadCellsFrom]
 |n+1,i,acc,cs,h=>by (obtain⟨v,hv⟩: ∃v,(load (a.add i)).run P w= .ok v w:=by simp only[loadCellsFrom,jR]at h;rw[run_load]at h |-;split at h;exact⟨_,rfl⟩;split at h;exact⟨_,rfl⟩;cases h);simp only[loadCellsFrom,jR,hv,md]at h;obtain⟨l,h1,h2,h3⟩:=ZW a n (i+1) (acc.push v) cs h;refine⟨v::l,by simp[h1],by simp[h2],fun m hm=>?_⟩;cases m with|zero=>simp[loadCellsFrom]|succ m=>have:=h3 m o?;simp only[loadCellsFrom,jR,hv,md,this];simp
theorem JL{size n k:Nat}{v:Value}{cs:Array Value}(h:(Builtin.firstCells size n v).run P w= .ok cs w)(hk:k<=n)(hl:cs.size=n*size):
  (Builtin.firstCells size k v).run P w= .ok ⟨cs.toList.take (k*size)⟩ w:=by have BS:k*size<=n*size:=mulR _ hk;cases v with|slice base a c=>(cases base with|none=>simp only[Builtin.firstCells,Sem.run_pure,Result.ok.injEq,and_true]at h |-;subst h;simp|some ad=>simp only[Builtin.firstCells,loadCells]at h |-;obtain⟨l,h1,h2,h3⟩:=ZW ad (n*size) 0 #[] cs h;rw[h3 _ BS];simp[h2])|string s=>simp only[Builtin.firstCells,Sem.run_pure,Result.ok.injEq,and_true]at h |-;subst h;simp at hl;by_cases hk0:k=0;subst hk0;simp;(have mq:size=1\/min n s.size=0:=by rcases Nat.lt_or_ge size 2 with h|h;rcases Nat.lt_or_ge size 1 with h' |h';right;have:size=0:=o?;subst this;omega;left;omega;have:=Nat.mul_le_mul_left n h;right;omega);rcases mq with rfl|h0;apply Array.ext';simp[List.take_take,Nat.min_eq_left hk];(have:s.size=0:=o?;apply Array.ext';have hs:s.data.toList=[]:=by cases s with|mk d=>simpa[ByteArray.size]using this);simp[hs]|_=>simp[Builtin.firstCells]at h
theorem xM.take{sz k:Nat}{es:List (List PV)}{cs:Array Value}(h:xM w Im sz es (cs[·]?)):xM w Im sz (es.take k) ((⟨cs.toList.take (k*sz)⟩:Array Value)[·]?):=by refine⟨fun e he=>h.1 e (W? he),fun i e j p hi hj=>?_,fun i e j p hi hj=>?_⟩;have xQ:=(qF hi).1;simp at xQ;rw[Y? o?]at hi;exact h.2.1 i e j p hi hj;have xQ:=(qF hi).1;simp at xQ;rw[Y? o?]at hi;obtain⟨v,h1,h2⟩:=h.2.2 i e j p hi hj;refine⟨v, ?_,h2⟩;have Sq:=(qF hj).1;have he:=h.1 e (z7 hi);have:(i+1)*sz<=k*sz:=mulR _ o?;rw[B?]at this;simp only[I?];rw[Y? o?];simpa using h1
theorem IP{ts e:TypeId}{ti te:TI}(K5:zM P ts ti)(ju:ti.td= .slice e)(dw:zM P e te){ch:Array TypeId}(h0:ch[0]? =some ts)(tt:TypeId)
  (hi:zd w H ι Im) {nx:Nat} {X:Nat->Prop} (xV:Bd X H nx) {x y:AV} {vx vy:Value} (hx:RA w H ι Im x vx) (hy:RA w H ι Im y vy) {r:mA} (hr:ZB te x y H nx=some r):
  ∃u w',(Builtin.copy_ ch tt #[vx,vy]).run P w= .ok u w' /\tj X w H ι Im nx r u w' :=by
 unfold ZB at hr;split at hr
 ·cases hr
 rename_i rn WT rE;split at hr;rotate_left
 ·cases hr
 rename_i β xc off n;split at hr;rotate_left
 ·cases hr
 rename_i sz es hb;split at hr<;>cases hr;rename_i hc;obtain⟨jy,hszz,mq⟩:=hc;subst hszz;obtain⟨l1,cs0,f1',f2',f3'⟩:(Builtin.lenOf vy).run P w= .ok WT.length w/\ ∃cs,(Builtin.firstCells te.size WT.length vy).run P w= .ok cs w/\cs.size=WT.length*te.size/\xM w Im te.size WT (cs[·]?):=by
  obtain⟨a,b⟩:=tG (P:=P) hi hy rE;exact⟨a,b te.size mq⟩
 generalize hsrc' :WT.take n=src;have hk:src.length=min WT.length n:=by rw[<- hsrc'];simp[Nat.min_comm]
 have f1:=JL f1' (show src.length<=WT.length by omega) f2';have f3:xM w Im te.size src ((⟨cs0.toList.take (src.length*te.size)⟩:Array Value)[·]?):=by
  have:=f3'.take (k:=src.length);have e:WT.take src.length=src:=by
   rw[<- hsrc',List.take_eq_take_iff];simp
  rwa[e]at this
 have f2:(⟨cs0.toList.take (src.length*te.size)⟩:Array Value).size=src.length*te.size:=by
  have:src.length*te.size<=WT.length*te.size:=mulR _ o?;show(cs0.toList.take _).length=_;rw[List.length_take];have h2:cs0.toList.length=WT.length*te.size:=f2';rw[h2];exact Nat.min_eq_left this
 generalize (⟨cs0.toList.take (src.length*te.size)⟩:Array Value)=cs at f1 f2 f3;have hxx:=hx;cases hx with
 |row _ _ _ _ _ b ho jo Xm hv hh=>
 rw[hb]at jo;cases jo;obtain⟨h1,h2⟩:=hh _ _ _ rfl jy;simp only[wA,if_false]at h2;obtain⟨a,rfl,oL,eQ,Qi⟩:=h2;obtain⟨ab,ao,Dw⟩:=a;simp only at oL eQ Qi;subst oL eQ;obtain⟨vs,elem,fz,g1,g2,g3,pT,g5,g6,g7,g8⟩:=hi.row hb;have hsn:src.length<=n:=o?;have ON:src≠[]->ao=off*te.size:=fun jx=>by
  have:=q!.2 jx;exact Qi o?
 have ot: ∀x∈cs.toList,dx x=true:=by
  intro x hx;obtain⟨m,hm⟩:=kh hx;have Vc:m<src.length*te.size:=by
   have:=(qF hm).1;simp at this;omega
  have hdiv:m / te.size<src.length:=T' (by rwa[X!]);have hmod:m % te.size<te.size:=q1r _ pT;obtain⟨e0,MF⟩: ∃e0,src[m / te.size]? =some e0:=⟨src[m / te.size],z?⟩;have MG:=f3.1 e0 (z7 MF);obtain⟨p0,hp0⟩: ∃p0,e0[m % te.size]? =some p0:=⟨e0[m % te.size]'(o?),z?⟩;obtain⟨v0,q1,q2⟩:=f3.2.2 _ e0 _ p0 MF hp0;have:m / te.size*te.size+m % te.size=m:=by rw[X!];exact q16 m te.size
  simp only[this]at q1;have:x=v0:=by
   have h0:cs[m]? =some x:=by simpa using hm
   rw[h0]at q1;exact Option.some.inj q1
  subst this;exact q2.dx (f3.2.1 _ e0 _ p0 MF hp0)
 have hmul:off*te.size+src.length*te.size<=vs.size:=by
  rw[g3,<- M?];exact mulR _ o?
 have Z5: ∃w',(storeCells ⟨(ι β).b,ao,none⟩ cs.toList).run P w=R' () w' /\(w'.heap.size=w.heap.size/\w'.os=w.os/\w'.output=w.output)/\(∀ b',b' ≠(ι β).b->w'.heap[b']? =w.heap[b']?)/\
   ∃eg:Array Value,w'.heap[(ι β).b]? =some (.cells eg elem fz)/\eg.size=vs.size/\ ∀k,eg[k]? =if off*te.size<=k/\k<off*te.size+cs.size then cs[k-off*te.size]? else vs[k]? :=by
  by_cases hs:src=[]
  ·have hcs0:cs.size=0:=by rw[f2,hs];simp
   have Xl:cs.toList=[]:=by simpa using hcs0
   refine⟨w,by rw[Xl];rfl,⟨rfl,rfl,rfl⟩,fun _ _=>rfl,vs,g1,rfl,fun k=>?_⟩;rw[if_neg o?]
  have:=ON hs;subst this;obtain⟨w',q1,q2,q3,eg,q4,q5,q6⟩:=uH (P:=P) (ι β).b (off*te.size) elem fz cs.toList 0 w vs g1 g2 (by simp[f2];omega) ot;refine⟨w',by simpa using q1,q2,q3,eg,q4,q5,fun k=>?_⟩;rw[q6 k];simp
 obtain⟨w',q1,q2,q3,eg,q4,q5,q6⟩:=Z5;have T8:(Builtin.copy_ ch tt #[.slice (some ⟨(ι β).b,ao,none⟩) n ((ι β).cap-off),vy]).run P w= .ok (.int .i64 (src.length:Nat)) w' :=by
  have hmin:Nat.min WT.length n=src.length:=hk.symm;unfold Builtin.copy_;simp only[I?,a?,l?,h0,jR,qx (K5.slice ju),md,l1,dw.size,hmin,f1,q1,K?,goInt]
 have hes' :(es.take off++src++es.drop (off+src.length)).length=es.length:=by
  simp;omega
 refine⟨_,w',T8,jW ι β (ι β), ?_⟩;have key:=zd.put (Xn:=noO hb rfl) hi (w' :=w') β (.row false te.size (es.take off++src++es.drop (off+src.length))) (ι β)
  (fun x hx=>by
   rw[hb]at hx
   cases hx
   simp only[xN,qD.sh]
   exact⟨o?,fun _=>⟨z?,fun _=>⟨z?,Pl.XX _⟩⟩⟩)
  ⟨o?,q2.2⟩ (fun b' _ jx=>q3 b' (fun e=>jx _ hb rfl e.symm)) (fun _=> .inr ⟨_,hb,rfl,rfl⟩) (fun mI=>by
   have hw: ∀b,Im b->w'.heap[b]? =w.heap[b]? :=fun b hb=>mI.bc hi b hb
   have pR: ∀(i:Nat) e0,(es.take off++src++es.drop (off+src.length))[i]? =some e0->
     (off<=i/\i<off+src.length/\src[i-off]? =some e0)\/(¬ (off<=i/\i<off+src.length)/\es[i]? =some e0):=by
    intro i e0 h
    rw[kL es src off i o?]at h
    split at h
    ·rename_i hc
     exact .inl ⟨hc.1,hc.2,h⟩
    rename_i hc
    exact .inr ⟨hc,h⟩
   refine⟨eg,elem,fz,by simpa using q4,by rw[q5];exact g2,by simp[q5,g3],pT,by simp only[wS];omega, ?_, ?_, ?_⟩
   ·intro e0 MF
    obtain⟨i,yv⟩:=kh MF
    rcases pR i e0 yv with ⟨_,_,h⟩|⟨_,h⟩
    ·exact f3.1 e0 (z7 h)
    exact g6 e0 (z7 h)
   ·intro i e0 j p yv hj
    rcases pR i e0 yv with ⟨_,_,h⟩|⟨_,h⟩
    ·exact f3.2.1 _ e0 j p h hj
    exact g7 _ e0 j p h hj
   intro i e0 j p yv hj
   have Sq:=(qF hj).1
   rw[q6]
   rcases pR i e0 yv with ⟨k1,k2,h⟩|⟨k1,h⟩
   ·obtain⟨v0,w1,w2⟩:=f3.2.2 _ e0 j p h hj
    have MG:=f3.1 e0 (z7 h)
    have e1:i*te.size+j-off*te.size=(i-off)*te.size+j:=by
     have:i=off+(i-off):=o?
     conv=>lhs;rw[this,M?]
     omega
    have e2:off*te.size<=i*te.size:=mulR _ k1
    have e3:(i+1)*te.size<=(off+src.length)*te.size:=mulR _ k2
    rw[B?,M?]at e3
    rw[if_pos ⟨o?,by rw[f2];omega⟩,e1]
    exact⟨v0,w1,w2.mono mI.im hw⟩
   obtain⟨v0,w1,w2⟩:=g8 _ e0 j p h hj
   have MG:=g6 e0 (z7 h)
   have lK: ¬(off*te.size<=i*te.size+j/\i*te.size+j<off*te.size+cs.size):=by
    rw[f2]
    by_cases xQ:i<off
    ·have:(i+1)*te.size<=off*te.size:=mulR _ xQ
     rw[B?]at this
     omega
    have:(off+src.length)*te.size<=i*te.size:=mulR _ o?
    rw[M?]at this
    omega
   rw[if_neg lK]
   exact⟨v0,w1,w2.mono mI.im hw⟩)
 exact⟨key.1,key.2,.pv _ _ (.int _ _),jv _,yT xV (jv _) (xV β _ hb)⟩
end
end Go.Gm
