/-
  The machine, part a.
-/
import Derived.WalkKit
import GoSem.Claims
import Derived.KernelRfl
open Array renaming getElem?_append_left->P!,range->A!,ext'->I!,getElem?_eq_none->g_,length_toList->l_,getElem?_push->Q_,size_append->N_,getElem?_setIfInBounds->T_,getElem?_append_right->D_,append_assoc->O',size_empty->q0f
open Bool renaming or_eq_true->j!,not_false->q0v
open Go.IntKind renaming i64->q?
open Go.Result renaming ok->q08
open Go.Sem renaming run_pure->W?,run->C_
open Go.World renaming setCell->J',cell?->B'
open Int renaming toNat_of_nonneg->q0b
open List renaming length_cons->b?,mem_append->p?,getElem?_append_left->t?,map_cons->d?,getElem?_cons_zero->a?,replicate->e?,getElem?_cons_succ->i?,getElem?_append_right->J?,getElem?_map->K?,getElem?_take_of_lt->V?,mem_of_mem_take->Y?,mem_map->G?,length_pos_iff->M?,flatMap_cons->T?,nodup_append->D?,range->F?,getElem?_toArray->A?,mem_of_mem_drop->q!,getElem?_drop->h!,nodup_cons->i!,mem_flatMap->l!,getElem?_set->T!,getElem?_append->R!,length_map->j_,getElem?_replicate->u_,drop_eq_nil_of_le->n_,getElem?_range->Z_,length_replicate->P'
open Nat renaming succ_mul->B?,add_mul->N?,zero_add->O?,le_trans->p!,add_zero->d!,add_assoc->Q!,mul_comm->Y!,lt_of_lt_of_le->N!,zero_le->E!,lt_or_gt_of_ne->B_,lt_or_ge->N',ne_of_lt->M',div_lt_of_lt_mul->L',not_lt_zero->q0u,div_add_mod->q0w,reducePow->q18,mod_lt->q1h
open Ne renaming symm->c_
open Option renaming getD_some->e!,map_some->D!
set_option linter.unusedSimpArgs false
set_option linter.unusedVariables false
theorem o?{P:Prop}(h:P:=by omega):P:=h
theorem v?{P:Prop}(h:P:=by simp;omega):P:=h
theorem z?{P:Prop}(h:P:=by simp):P:=h
theorem u?{P:Prop}(h:P:=by simp only;omega):P:=h
theorem k?{P:Prop}(h:P:=by kernel_rfl):P:=h
namespace Go.Gm
open Go
section
variable {α β:Type}
theorem qL{l:List α}{i:Nat}{a:α}(h:l[i]? =some a): ∃h:i<l.length,l[i]=a:=List.getElem?_eq_some_iff.1 h
theorem zc{l:List α}{i:Nat}{a:α}(h:l[i]? =some a):a∈l:=List.mem_of_getElem? h
theorem ju(n:Nat):n<=n:=Nat.le_refl n
theorem mulR{m n:Nat}(k:Nat)(h:m<=n):m*k<=n*k:=Nat.mul_le_mul_right k h
theorem yZ{f:α->β}{x:Option α}{b:β}:x.map f=some b↔ ∃a,x=some a/\f a=b:=Option.map_eq_some_iff
theorem qV(a:α)(f:α->Option β):(some a).bind f=f a:=z?
theorem zP{α β:Type}: @bind Option _ α β=Option.bind:=by rfl
theorem wK{l:List α}{i:Nat}(h:i<l.length):l[i]? =some l[i]:=List.getElem?_eq_getElem h
theorem jI{a:α}{l:List α}(h:a∈l): ∃i:Nat,l[i]? =some a:=List.getElem?_of_mem h
theorem wd{a b:α}:(some a=some b)=(a=b):=z?
theorem wH:(false=true)=False:=z?
theorem zU(a b:Bool):((a&&b)=true)=(a=true/\b=true):=z?
theorem mb(a:α)(w:World)(f:α->World->Result β):(q08 a w).andThen f=f a w:=rfl
theorem kf(P:Program)(w:World)(x:Sem α)(f:α->Sem β):C_ P (x>>=f) w=(C_ P x w).andThen fun a w' =>C_ P (f a) w' :=Sem.run_bind P w x f
end
inductive PV where
 |bool (b:Bool)
 |int (k:IntKind) (n:Int)
 |str (s:List UInt8)
 |agg (c:List PV)
 |sl (qw:Bool) (sz:Nat) (es:List (List PV))
 |yj
 |fg
 |n9
 |eY
 |fn (f:FuncId)
 |rp (c:List PV)
 deriving Inhabited
def PV.V4:PV->Bool
 | .bool _| .int _ _| .str _| .yj| .fg| .n9| .eY| .fn _=>true
 |_=>false
inductive AV where
 |pv (p:PV)
 |ptr (β:Nat) (o:Nat)
 |uS (β xm i o:Nat)
 |tQ (c:List PV) (o:Nat)
 |row (β xm off n:Nat)
 |iW
 |map (β:Nat)
 |Q3 (f:FuncId) (first cap:List AV)
 |agg (c:List AV)
 |xW (l:List AV)
 |undef
 deriving Inhabited
inductive qJ where
 |box (c:List AV)
 |row (qw:Bool) (sz:Nat) (es:List (List PV))
 |map (es:List (PV×PV×Nat)) (zN:Nat)
 |mr (sz:Nat) (es:List (List AV))
 |kj (qw:Bool) (ei:List Nat) (es:List PV) (l4:Option (Nat×Nat×Nat))
 |xH
 deriving Inhabited
def qJ.sh:qJ->Option (Bool×Nat×Nat)
 | .row qw sz es=>some (qw,sz,es.length)
 | .mr sz es=>some (false,sz,es.length)
 | .kj qw _ es _=>some (qw,1,es.length)
 |_=>none
def qJ.slv:qJ->Option (Bool×Nat×Nat)
 | .row qw sz es=>some (qw,sz,es.length)
 | .kj qw _ es none=>some (qw,1,es.length)
 |_=>none
def xd{α:Type}(k:Nat):List α->Nat
 |[]=>0
 |_::_=>k
def FD(qw:Bool)(sz:Nat)(es:List (List PV)):PV:= .sl qw (xd sz es) es
abbrev yu:=List (Nat×AV)
abbrev qp:=List (Nat×qJ)
def yu.get:yu->Nat->AV
 |[],_=> .undef
 |(i,v)::r,n=>if i=n then v else yu.get r n
def qp.get:qp->Nat->Option qJ
 |[],_=>none
 |(i,v)::r,n=>if i=n then some v else qp.get r n
def qp.put:qp->Nat->qJ->qp
 |[],n,x=>[(n,x)]
 |(i,v)::r,n,x=>if i=n then(i,x)::r else(i,v)::qp.put r n x
structure St where
 env:yu
 heap:qp
 nx:Nat
 deriving Inhabited
inductive TD where
 |struct (fields:List (Nat×Nat×TypeId))
 |array (len:Nat) (elem:TypeId)
 |slice (elem:TypeId)
 |map (key elem:TypeId)
 |bool
 |int (k:IntKind)
 |string
 |ptr
 |func
 |other
 deriving Inhabited
structure TI where
 size:Nat
 bytes:Nat
 td:TD
 zero:List PV
 eq:Bool
 pe:Option TypeId:=none
 deriving Inhabited
def TI.isAgg(t:TI):Bool:=match t.td with| .struct _| .array _ _=>true|_=>false
def pvOf:Value->Option PV
 | .bool b=>some (.bool b)
 | .int k n=>some (.int k n)
 | .string s=>some (.str s.data.toList)
 | .pointer none=>some .yj
 | .slice none 0 0=>some (.sl true 0 [])
 | .map none=>some .n9
 | .nilFunc=>some .fg
 | .nilIface=>some .eY
 | .func (.func f) ⟨[]⟩ ⟨[]⟩=>some (.fn f)
 |_=>none
def i4:List Value->Option (List PV)
 |[]=>some []
 |v::r=>match pvOf v,i4 r with
  |some p,some l=>some (p::l)
  |_,_=>none
def avOf(v:Value):AV:=
 match v with
 | .agg ⟨cs⟩=>match i4 cs with|some l=> .pv (.agg l)|none=> .undef
 | .tuple ⟨[]⟩=> .xW []
 |v=>match pvOf v with|some p=> .pv p|none=> .undef
structure py where
 Hr:List Nat:=[]
 out:List Nat:=[]
 ku:List Nat:=[]
 xl:List (Nat×Nat):=[]
 freeze:List Nat:=[]
 own:Nat:=0
 deriving Inhabited
def py.off(sp:py):Nat:=if sp.own=1000 then 0 else sp.own
structure FI where
 nt:Nat
 results:List ResultVar
 body:Code
 deriving Inhabited
inductive D7 where
 |focus (t:Nat) (is:List Nat)
 |pack (t:Nat)
 |cut (t:Nat)
 |prom (t:Nat) (ei:List Nat)
 |Hb (t:Nat)
 deriving Inhabited
structure GP where
 ti:TypeId->Option TI
 fn:FuncId->Option FI
 spec:FuncId->Nat->py
 owned:FuncId->Bool
 sk:FuncId->Bool
 pre:FuncId->Nat->List Nat
 Hb:TypeId->Bool
 Ep:TypeId->Bool
 cmd:FuncId->Nat->List D7
def ev(E:yu):Operand->AV
 | .tmp t=>E.get t
 | .const v=>avOf v
 | .global _=> .undef
 | .func f=> .pv (.fn f)
def ll:List AV->Option (List PV)
 |[]=>some []
 | .pv p::r=>match ll r with|some l=>some (p::l)|none=>none
 |_::_=>none
def Ju(c:List AV):AV:=match ll c with|some l=> .pv (.agg l)|none=> .agg c
def AV.cells:AV->List AV
 | .pv (.agg c)=>c.map .pv
 | .agg c=>c
 |v=>[v]
def PV.cells:PV->List PV
 | .agg c=>c
 |p=>[p]
def AV.MA:AV->Bool
 | .undef| .xW _=>false
 |_=>true
def AV.slc:AV->Bool
 | .row _ _ _ _| .iW| .pv (.sl _ _ _)=>true
 |_=>false
def WW:AV->Option PV
 | .pv p=>some p
 | .iW=>some (.sl false 0 [])
 |_=>none
def vW:AV->Option Nat
 | .pv (.int _ n)=>if 0<=n then some n.toNat else none
 |_=>none
abbrev my:=AV×List (Nat×qJ)×Nat
def Eo(ti:TI)(c:List AV):Option AV:=
 if ti.isAgg then(if ti.size<=c.length then some (Ju (c.take ti.size))else none)
 else match c with|x::_=>some x|[]=>none
def ldP(ti:TI)(c:List PV):Option AV:=
 if ti.isAgg then(if ti.size<=c.length then some (.pv (.agg (c.take ti.size)))else none)
 else match c with|x::_=>some (.pv x)|[]=>none
def QB(ti:TI)(a:AV)(H:qp):Option AV:=
 match a with
 | .ptr β o=>match H.get β with
  |some (.box c)=>Eo ti (c.drop o)
  |_=>none
 | .uS β xm i o=>match H.get β with
  |some (.row false _ es)=>if xm=es.length then match es[i]? with|some e=>ldP ti (e.drop o)|none=>none else none
  |some (.mr _ es)=>if xm=es.length then match es[i]? with|some e=>Eo ti (e.drop o)|none=>none else none
  |some (.kj false _ es (some (j,γ,fv)))=>if xm=es.length/\o=0/\j=i then Eo ti [.row γ fv 0 fv]else none
  |_=>none
 | .tQ c o=>ldP ti (c.drop o)
 | .pv (.rp c)=>ldP ti c
 |_=>none
def Zh(sz β xm i o size:Nat)(vs:List AV)(es:List (List AV)):Option (List (Nat×qJ)):=none
def H6:Option (Nat×Nat×Nat)->Nat->Bool
 |some x,i=>decide (x.1=i)
 |none,_=>true
def J2(β xm i o size:Nat)(v:AV)(ds:List Nat)(es:List PV)(l4:Option (Nat×Nat×Nat)):Option (List (Nat×qJ)):=
 match v with
 | .row γ fv 0 n=>if xm=es.length/\i<es.length/\o=0/\size=1/\n=fv/\H6 l4 i=true then some [(β,.kj false ds es (some (i,γ,fv)))]else none
 |_=>none
def o6(ti:TI)(a v:AV)(H:qp):Option (List (Nat×qJ)):=
 if v.MA=true/\v.cells.length=ti.size then
  match a with
  | .ptr β o=>match H.get β with
   |some (.box c)=>if o+ti.size<=c.length then some [(β,.box (c.take o++v.cells++c.drop (o+ti.size)))]else none
   |_=>none
  | .uS β xm i o=>match ll v.cells with
   |some ps=>match H.get β with
    |some (.row false sz es)=>
     if xm=es.length then match es[i]? with
      |some e=>if o+ti.size<=e.length then some [(β,.row false sz (es.set i (e.take o++ps++e.drop (o+ti.size))))]else none
      |none=>none
     else none
    |some (.mr sz es)=>Zh sz β xm i o ti.size v.cells es
    |_=>none
   |none=>match H.get β with
    |some (.mr sz es)=>Zh sz β xm i o ti.size v.cells es
    |some (.kj false ds es l4)=>J2 β xm i o ti.size v ds es l4
    |_=>none
  |_=>none
 else none
def lA(zk:Nat->Option (Nat×Nat))(ρ:Operand->AV):List (Nat×Operand)->List AV->Option (List AV)
 |[],c=>some c
 |(i,x)::r,c=>
  match zk i with
  |some (off,size)=>
   if(ρ x).MA=true/\(ρ x).cells.length=size/\off+size<=c.length then
    lA zk ρ r (c.take off++(ρ x).cells++c.drop (off+size))
   else none
  |none=>none
def ly(fs:List (Nat×Nat×TypeId))(i:Nat):Option (Nat×Nat):=match fs[i]? with|some (o,s,_)=>some (o,s)|none=>none
def KC(ti:TI)(iU:TypeId->Option TI)(ρ:Operand->AV)(parts:List (Nat×Operand)):Option AV:=
 match ti.td with
 | .struct fs=>match lA (ly fs) ρ parts (ti.zero.map .pv)with|some c=>some (Ju c)|none=>none
 | .array _ e=>match iU e with
  |some te=>match lA (fun i=>some (i*te.size,te.size)) ρ parts (ti.zero.map .pv)with|some c=>some (Ju c)|none=>none
  |none=>none
 |_=>none
def rH(size:Nat)(ρ:Operand->AV):List (Nat×Operand)->List (List PV)->Option (List (List PV))
 |[],es=>some es
 |(i,x)::r,es=>
  match WW (ρ x)with
  |some p=>if p.cells.length=size/\i<es.length then rH size ρ r (es.set i p.cells)else none
  |none=>none
def pV(size:Nat)(ρ:Operand->AV):List (Nat×Operand)->List (List AV)->Option (List (List AV))
 |[],es=>some es
 |(i,x)::r,es=>if(ρ x).MA=true/\(ρ x).cells.length=size/\i<es.length then pV size ρ r (es.set i (ρ x).cells)else none
def yN(v:AV)(H:qp):Option (Nat×List (List PV)):=
 match v with
 | .pv (.sl _ sz es)=>some (sz,es)
 | .iW=>some (0,[])
 | .row β xm off n=>match H.get β with
  |some (.row _ sz es)=>if xm=es.length then some (sz,(es.drop off).take n)else none
  |_=>none
 | .pv (.str s)=>some (1,s.map fun b=>[.int .u8 b.toNat])
 |_=>none
def qi(zE bytes:Nat):Bool:=decide (zE*bytes<=2^46)&&decide (zE<=2^46)&&decide (bytes<=2^20)
def ki(te:TI)(s:AV)(src:List (List PV))(γ nx fj:Nat):Option my:=
 match src with
 |[]=>some (s,[],nx)
 |_::_=>if qi src.length te.bytes=true then some (.row γ src.length 0 src.length,[(γ,.row false te.size src)],fj)else none
def lS(v:AV)(H:qp):Option (Nat×List (List AV)):=
 match v with
 | .row β xm off n=>match H.get β with
  |some (.mr sz es)=>if xm=es.length then some (sz,(es.drop off).take n)else none
  |_=>none
 |_=>none
def freshA(te:TI)(src:List (List AV))(γ fj:Nat):Option my:=
 match src with
 |[]=>none
 |_::_=>if qi src.length te.bytes=true then some (.row γ src.length 0 src.length,[(γ,.mr te.size src)],fj)else none
def mB(te:TI)(s x:AV)(H:qp)(nx:Nat):Option my:=none
def hZ(te:TI)(s x:AV)(H:qp)(nx:Nat):Option my:=
 match yN x H with
 |none=>mB te s x H nx
 |some (rz,src)=>
  if(rz=te.size\/src=[])/\0<te.size then
   match s with
   | .pv (.sl true _ _)=>ki te s src nx nx (nx+1)
   | .iW=>ki te s src nx nx (nx+1)
   | .row β xm off n=>match H.get β with
    |some (.row true _ es)=>if xm=es.length/\off=0/\n=0 then ki te s src β nx nx else none
    |some (.row false sz es)=>
     if xm=es.length/\sz=te.size/\off=0/\qi (n+src.length) te.bytes=true then
      if n=es.length then some (.row β (es++src).length 0 (es++src).length,[(β,.row false te.size (es++src))],nx)
      else some (.row β (es.take n++src++es.drop (n+src.length)).length 0 (n+src.length),[(β,.row false te.size (es.take n++src++es.drop (n+src.length)))],nx)
     else none
    |_=>none
   |_=>none
  else none
def nP(te:TI)(s x:AV)(H:qp)(nx:Nat):Option my:=
 match lS x H with
 |some (rz,[[.row γ fv 0 fn]])=>match s with
  | .row β xm off n=>match H.get β with
   |some (.kj qw ds es none)=>if xm=es.length/\off=0/\n=es.length/\rz=te.size/\te.size=1/\fn=fv/\qi (n+1) te.bytes=true then
     some (.row β (es.length+1) 0 (es.length+1),[(β,.kj false ds (es++[.sl true 0 []]) (some (es.length,γ,fv)))],nx)else none
   |_=>none
  |_=>none
 |_=>none
def mZ:List (List PV)->Option (List UInt8)
 |[]=>some []
 |[.int .u8 n]::r=>match mZ r with|some l=>some (UInt8.ofNat n.toNat::l)|none=>none
 |_=>none
def bA(e:TypeId)(te:TI)(s x:AV)(H:qp)(nx:Nat):Option my:=none
def tD(x:AV)(H:qp)(nx:Nat):Option my:=none
def gH(el:TypeId)(p x:AV)(H:qp)(nx:Nat):Option my:=none
def Zz(te:TI)(d x:AV)(H:qp)(nx:Nat):Option my:=
 match yN x H with
 |none=>none
 |some (rz,src)=>match d with
  | .row β xm off n=>match H.get β with
   |some (.row false sz es)=>
    if xm=es.length/\sz=te.size/\(rz=te.size\/src=[])then
     some (.pv (.int .i64 ((src.take n).length:Nat)),[(β,.row false te.size (es.take off++src.take n++es.drop (off+(src.take n).length)))],nx)
    else none
   |_=>none
  |_=>none
def tC(td:TD)(iU:TypeId->Option TI)(x i:AV)(H:qp):Option AV:=
 match vW i with
 |none=>none
 |some k=>
  match td with
  | .slice e=>match iU e with
   |none=>none
   |some te=>match x with
    | .pv (.sl _ sz es)=>if sz=te.size then match es[k]? with|some c=>some (.tQ c 0)|none=>none else none
    | .row β xm off n=>match H.get β with
     |some (.row false sz es)=>if xm=es.length/\sz=te.size/\k<n then some (.uS β xm (off+k) 0)else none
     |some (.mr sz es)=>if xm=es.length/\sz=te.size/\k<n then some (.uS β xm (off+k) 0)else none
     |some (.kj false _ es _)=>if xm=es.length/\te.size=1/\k<n then some (.uS β xm (off+k) 0)else none
     |_=>none
    |_=>none
  | .array len e=>match iU e with
   |none=>none
   |some te=>if k<len then match x with
    | .ptr β o=>some (.ptr β (o+k*te.size))
    | .uS β xm j o=>some (.uS β xm j (o+k*te.size))
    | .tQ c o=>some (.tQ c (o+k*te.size))
    |_=>none
    else none
  |_=>none
def o5(td:TD)(x:AV)(f:Nat):Option AV:=
 match td with
 | .struct fs=>match fs[f]? with
  |some (o',s,_)=>if 0<s then match x with
   | .ptr β o=>some (.ptr β (o+o'))
   | .uS β xm j o=>some (.uS β xm j (o+o'))
   | .tQ c o=>some (.tQ c (o+o'))
   | .pv (.rp c)=>some (.tQ c o')
   |_=>none
   else none
  |none=>none
 |_=>none
def Bm(ti:TI)(x:AV)(off:Nat):Option AV:=
 match x with
 | .pv (.agg c)=>ldP ti (c.drop off)
 | .agg c=>Eo ti (c.drop off)
 |_=>none
def kz(ρ:Operand->AV)(d:Nat):Option Operand->Option Nat
 |none=>some d
 |some x=>vW (ρ x)
def eh(td:TD)(iU:TypeId->Option TI)(ρ:Operand->AV)(x:AV)(lo hi mx:Option Operand)(H:qp):Option AV:=
 if mx.isSome=true/\hi.isNone=true then none else
 match td with
 | .string=>match x with
  | .pv (.str s)=>
   if mx.isSome then none else
   match kz ρ 0 lo,kz ρ s.length hi with
   |some l,some h=>if l<=h/\h<=s.length then some (.pv (.str ((s.take h).drop l)))else none
   |_,_=>none
  |_=>none
 | .slice e=>match iU e with
  |none=>none
  |some te=>match x with
   | .pv (.sl qw sz es)=>
    match kz ρ 0 lo,kz ρ es.length hi,kz ρ es.length mx with
    |some l,some h,some m=>
     if l<=h/\h<=m/\m<=es.length/\(sz=te.size\/es=[])then
      if mx.isSome=true/\l=m/\qw=false then some .iW else some (.pv (FD qw sz ((es.take h).drop l)))
     else none
    |_,_,_=>none
   | .row β xm off n=>
    match H.get β with
    |some b=>match b.slv with
     |some (qw,sz,k)=>
      match kz ρ 0 lo,kz ρ n hi,kz ρ n mx with
      |some l,some h,some m=>
       if xm=k/\l<=h/\h<=m/\m<=n/\(sz=te.size\/qw=true)then
        if mx.isSome=true then(if qw=true then some (.row β xm off n)else if l=m then some .iW else none)
        else some (.row β xm (off+l) (h-l))
       else none
      |_,_,_=>none
     |none=>none
    |none=>none
   | .iW=>
    match kz ρ 0 lo,kz ρ 0 hi,kz ρ 0 mx with
    |some 0,some 0,some 0=>some .iW
    |_,_,_=>none
   |_=>none
 |_=>none
def kr:List UInt8->List UInt8->Bool
 |_,[]=>false
 |[],_::_=>true
 |a::x,b::y=>a<b || (a==b&&kr x y)
def Hj(op:BinOp)(k:IntKind)(a b:Int):Option PV:=
 match op with
 | .add=>some (.int k (k.wrap (a+b)))
 | .sub=>some (.int k (k.wrap (a-b)))
 | .mul=>some (.int k (k.wrap (a*b)))
 | .quo=>if b=0 then none else some (.int k (k.wrap (a.tdiv b)))
 | .rem=>if b=0 then none else some (.int k (a.tmod b))
 | .eql=>some (.bool (a==b))
 | .neq=>some (.bool (a != b))
 | .lss=>some (.bool (decide (a<b)))
 | .leq=>some (.bool (decide (a<=b)))
 | .gtr=>some (.bool (decide (a>b)))
 | .geq=>some (.bool (decide (a>=b)))
 | .and=>some (.int k (k.wrap (BitVec.ofInt k.bits a &&& BitVec.ofInt k.bits b).toNat))
 | .or=>some (.int k (k.wrap (BitVec.ofInt k.bits a ||| BitVec.ofInt k.bits b).toNat))
 | .xor=>some (.int k (k.wrap (BitVec.ofInt k.bits a ^^^ BitVec.ofInt k.bits b).toNat))
 | .andNot=>some (.int k (k.wrap (BitVec.ofInt k.bits a &&& ~~~BitVec.ofInt k.bits b).toNat))
 |_=>none
def Gd(op:BinOp)(a b:List UInt8):Option PV:=
 match op with
 | .add=>if a.length+b.length<=2^62 then some (.str (a++b))else none
 | .eql=>some (.bool (a==b))
 | .neq=>some (.bool (!(a==b)))
 | .lss=>some (.bool (kr a b))
 | .leq=>some (.bool (kr a b || a==b))
 | .gtr=>some (.bool (!(kr a b || a==b)))
 | .geq=>some (.bool (!kr a b))
 |_=>none
def gj:List PV->List PV->Option Bool
 |[],[]=>some true
 | .int k a::r,.int k' b::r' =>if k=k' then match gj r r' with|some t=>some (a==b&&t)|none=>none else none
 | .str a::r,.str b::r' =>match gj r r' with|some t=>some (a==b&&t)|none=>none
 | .bool a::r,.bool b::r' =>match gj r r' with|some t=>some (a==b&&t)|none=>none
 |_,_=>none
def dd(td:TD)(v:AV)(H:qp):Option Bool:=
 match td with
 | .ptr=>match v with
  | .pv .yj=>some true
  | .ptr _ _| .tQ _ _| .uS _ _ _ _| .pv (.rp _)=>some false
  |_=>none
 | .slice _=>match v with
  | .pv (.sl b _ _)=>some b
  | .iW=>some false
  | .row β xm _ _=>match H.get β with
   |some (.row b _ es)=>if xm=es.length then some b else none
   |_=>none
  |_=>none
 | .map _ _=>match v with
  | .pv .n9=>some true
  | .map _=>some false
  |_=>none
 | .func=>match v with
  | .pv .fg=>some true
  | .pv (.fn _)| .Q3 _ _ _=>some false
  |_=>none
 |_=>none
def Wu(td:TD)(v:AV):Bool:=
 match td,v with
 | .ptr,.pv .yj=>true
 | .slice _,.pv (.sl true _ _)=>true
 | .map _ _,.pv .n9=>true
 | .func,.pv .fg=>true
 |_,_=>false
def k8:TD->PV->Bool
 | .int _,.int _ _| .string,.str _| .bool,.bool _=>true
 |_,_=>false
def aI(iU:TypeId->Option TI):List (Nat×Nat×TypeId)->List PV->Bool
 |[],[]=>true
 |(_,_,t)::r,p::l=>(match iU t with|some ti=>k8 ti.td p|none=>false)&&aI iU r l
 |_,_=>false
def BT(iU:TypeId->Option TI)(ti:TI)(a:List PV):Bool:=
 match ti.td with
 | .struct fs=>if ti.size<=a.length then ti.eq&&aI iU fs (a.take ti.size)else false
 |td=>k8 td (a.headD .yj)
def UY(iU:TypeId->Option TI):List (Nat×Nat×TypeId)->List PV->Bool
 |[],[]=>true
 |[],_::_=>false
 |(_,_,t)::r,a=>match iU t with
  |some ti=>BT iU ti a&&UY iU r (a.drop ti.size)
  |none=>false
def aEq(iU:TypeId->Option TI)(ti:TI)(x y:AV)(H:qp):Option Bool:=
 match ti.td with
 | .bool=>match x,y with
  | .pv (.bool a),.pv (.bool b)=>some (a==b)
  |_,_=>none
 | .struct fs=>match x,y with
  | .pv (.agg a),.pv (.agg b)=>if ti.eq=true/\aI iU fs a=true then gj a b else none
  |_,_=>none
 |td=>if Wu td y=true then dd td x H else if Wu td x=true then dd td y H else none
def Pq(iU:TypeId->Option TI)(op:BinOp)(ti:TI)(x y:AV)(H:qp):Option PV:=
 match op with
 | .shl=>match x,y with
  | .pv (.int k a),.pv (.int _ b)=>if 0<=b then some (.int k (k.wrap (a*2^(min b.toNat k.bits))))else none
  |_,_=>none
 | .shr=>match x,y with
  | .pv (.int k a),.pv (.int _ b)=>if 0<=b then some (.int k (a.fdiv (2^(min b.toNat k.bits))))else none
  |_,_=>none
 |op=>match x,y with
  | .pv (.int k a),.pv (.int k' b)=>if k=k' then Hj op k a b else none
  | .pv (.str a),.pv (.str b)=>Gd op a b
  |x,y=>match op with
   | .eql=>match aEq iU ti x y H with|some t=>some (.bool t)|none=>none
   | .neq=>match aEq iU ti x y H with|some t=>some (.bool (!t))|none=>none
   |_=>none
def ZT:TD->AV->Bool
 | .string,.pv (.str _)=>true
 | .slice _,.pv (.sl _ _ _)=>true
 | .slice _,.row _ _ _ _=>true
 | .slice _,.iW=>true
 | .map _ _,.pv .n9=>true
 | .map _ _,.map _=>true
 |_,_=>false
def aUn(op:UnOp)(x:AV):Option PV:=
 match op,x with
 | .not,.pv (.bool b)=>some (.bool !b)
 | .neg,.pv (.int k n)=>some (.int k (k.wrap (0-n)))
 |_,_=>none
def rD(src dst:TD)(dte:TypeId->Option TI)(x:AV)(H:qp)(nx:Nat):Option my:=
 match src,dst,x with
 |_,.int k,.pv (.int _ n)=>some (.pv (.int k (k.wrap n)),[],nx)
 |_,.string,.pv (.str s)=>some (.pv (.str s),[],nx)
 | .slice e,.string,x=>match dte e with
  |some te=>match te.td with
   | .int .u8=>match yN x H with
    |some (rz,es)=>if rz=1\/es=[]then match mZ es with|some l=>some (.pv (.str l),[],nx)|none=>none else none
    |none=>none
   |_=>none
  |none=>none
 |_,.slice e,.pv (.str s)=>match dte e with
  |some te=>match te.td with
   | .int .u8=>some (.row nx s.length 0 s.length,[(nx,.row false 1 (s.map fun b=>[.int .u8 b.toNat]))],nx+1)
   |_=>none
  |none=>none
 |_,_,_=>none
def Nh:PV->PV->Option Bool
 | .int k a,.int k' b=>if k=k' then some (a==b)else none
 | .str a,.str b=>some (a==b)
 | .bool a,.bool b=>some (a==b)
 |_,_=>none
def findKey(k:PV):List (PV×PV×Nat)->Nat->Option (Option (Nat×PV×Nat))
 |[],_=>some none
 |(x,v,born)::r,i=>match Nh k x with
  |some true=>some (some (i,v,born))
  |some false=>findKey k r (i+1)
  |none=>none
def X6(t:TI):PV:=if t.isAgg then .agg t.zero else t.zero.headD .yj
def KI(m:AV)(k:PV)(H:qp):Option (Option (Nat×PV×Nat)):=
 match m with
 | .pv .n9=>some none
 | .map β=>match H.get β with
  |some (.map es _)=>findKey k es 0
  |_=>none
 |_=>none
def aE(tk te:TI)(m k:AV)(ok:Bool)(H:qp):Option AV:=
 match k with
 | .pv k=>if k8 tk.td k then match KI m k H with
  |some (some (_,v,_))=>some (if ok then .xW [.pv v,.pv (.bool true)]else .pv v)
  |some none=>some (if ok then .xW [.pv (X6 te),.pv (.bool false)]else .pv (X6 te))
  |none=>none
  else none
 |_=>none
def lj(tk te:TI)(m k:AV)(ok:Bool)(H:qp):Option AV:=none
def dV(tk:TI)(m k v:AV)(H:qp):Option (List (Nat×qJ)):=none
def rE(tk:TI)(m k:AV)(v:PV)(H:qp):Option (List (Nat×qJ)):=
 match m,k with
 | .map β,.pv k=>if k8 tk.td k then match H.get β with
  |some (.map es zN)=>match findKey k es 0 with
   |some (some (i,_,born))=>some [(β,.map (es.set i (k,v,born)) zN)]
   |some none=>some [(β,.map (es++[(k,v,zN)]) (zN+1))]
   |none=>none
  |_=>none
  else none
 |_,_=>none
def lh(tk te:TI)(m k:AV)(H:qp):Option (AV×List (Nat×qJ)):=none
def bP(m st:AV)(v:PV)(H:qp):Option (List (Nat×qJ)):=none
def cl(tk:TI)(m k:AV)(H:qp):Option (List (Nat×qJ)):=
 match m,k with
 | .pv .n9,.pv k=>if k8 tk.td k then some []else none
 | .map β,.pv k=>if k8 tk.td k then match H.get β with
  |some (.map es zN)=>match findKey k es 0 with
   |some (some (i,_,_))=>some [(β,.map (es.eraseIdx i) zN)]
   |some none=>some [(β,.map es zN)]
   |none=>none
  |_=>none
  else none
 |_,_=>none
def Bh(x:AV)(H:qp):Option Nat:=
 match x with
 | .pv (.str s)=>some s.length
 | .pv (.sl _ _ es)=>some es.length
 | .pv .n9=>some 0
 | .iW=>some 0
 | .row β xm _ n=>match H.get β with
  |some (.row _ _ es)=>if xm=es.length then some n else none
  |some (.mr _ es)=>if xm=es.length then some n else none
  |some (.kj _ _ es _)=>if xm=es.length then some n else none
  |_=>none
 | .map β=>match H.get β with
  |some (.map es _)=>some es.length
  |_=>none
 |_=>none
def ot(isMax:Bool)(k:IntKind):Int->List AV->Option PV
 |a,[]=>some (.int k a)
 |a,.pv (.int _ b)::r=>ot isMax k (if isMax then(if b>a then b else a)else(if b<a then b else a)) r
 |_,_=>none
def IJ(isMax:Bool):List AV->Option PV
 | .pv (.int k a)::r=>ot isMax k a r
 |[.pv (.str a),.pv (.str b)]=>if isMax=true then some (.str (if kr a b=true then b else a))else none
 |_=>none
def sE(td:TD)(iU:TypeId->Option TI)(l c:AV)(nx:Nat):Option my:=
 match td with
 | .slice e=>match iU e,vW l,vW c with
  |some te,some n,some n' =>
   if n' =n/\0<te.size/\qi n te.bytes=true then some (.row nx (e? n te.zero).length 0 (e? n te.zero).length,[(nx,.row false te.size (e? n te.zero))],nx+1)else none
  |_,_,_=>none
 |_=>none
def AV.refs:AV->List Nat
 | .ptr β _| .uS β _ _ _| .row β _ _ _| .map β=>[β]
 | .agg c=>pI c
 | .xW c=>pI c
 | .Q3 _ a b=>pI a++pI b
 |_=>[]
where pI:List AV->List Nat
 |[]=>[]
 |v::r=>v.refs++pI r
def AV.rows:AV->List Nat
 | .row β _ _ _=>[β]
 | .agg c=>QN c
 | .xW c=>QN c
 |_=>[]
where QN:List AV->List Nat
 |[]=>[]
 |v::r=>v.rows++QN r
def AV.yz(β:Nat)(qw:Bool)(sz:Nat)(es:List (List PV)):AV->AV
 | .row β' xm off n=>if β' =β/\xm=es.length then .pv (FD qw sz ((es.drop off).take n))else .row β' xm off n
 | .agg c=>Ju (rm c)
 | .xW c=> .xW (rm c)
 | .Q3 f a b=> .Q3 f (rm a) (rm b)
 |v=>v
where rm:List AV->List AV
 |[]=>[]
 |v::r=>AV.yz β qw sz es v::rm r
def qJ.yz(β:Nat)(qw:Bool)(sz:Nat)(es:List (List PV)):qJ->qJ
 | .box c=> .box (AV.yz.rm β qw sz es c)
 | .mr RH og=> .mr RH (og.map (AV.yz.rm β qw sz es))
 |b=>b
def freeze(β:Nat)(s:St):St:=
 match s.heap.get β with
 |some (.row qw sz es)=>
  { s with env:=s.env.map (fun (t,v)=>(t,v.yz β qw sz es)),heap:=qp.put (s.heap.map fun(i,b)=>(i,b.yz β qw sz es)) β .xH }
 |some (.kj qw _ es none)=>
  { s with env:=s.env.map (fun (t,v)=>(t,v.yz β qw 1 (es.map fun p=>[p]))),heap:=qp.put (s.heap.map fun(i,b)=>(i,b.yz β qw 1 (es.map fun p=>[p]))) β .xH }
 |_=>s
def gf:List Nat->St->St
 |[],s=>s
 |β::r,s=>gf r (freeze β s)
def cr(es:List (List PV)):Bool:=es.all fun e=>e.all PV.V4
def H5(qw:Bool)(d:Nat)(ds:List Nat)(es:List (List PV)):Option qJ:=
 match ds with
 |[]=>some (.row qw d es)
 |_::_=>if d=1 then some (.kj qw ds es.flatten none)else none
def H7(H:qp)(nx β i:Nat):Option (qp×Nat×Nat):=
 match H.get β with
 |some (.kj false ei es none)=>match ei with
  |d::ds=>match es[i]? with
   |some (.sl qw _ og)=>match H5 qw d ds og with
    |some b=>some (qp.put (qp.put H β (.kj false (d::ds) es (some (i,nx,og.length)))) nx b,nx+1,nx)
    |none=>none
   |_=>none
  |[]=>none
 |some (.kj false _ _ (some x))=>if x.1=i then some (H,nx,x.2.1)else none
 |_=>none
def dw(H:qp)(nx β:Nat):List Nat->qp×Nat
 |[]=>(H,nx)
 |i::r=>match H7 H nx β i with
  |some (H',fj,γ)=>dw H' fj γ r
  |none=>(H,nx)
def X2(d:Nat)(ds:List Nat)(xm:Nat):qJ->Option PV
 | .row qw sz es=>match ds with
  |[]=>if xm=es.length/\(qw=true\/sz=d)/\cr es=true then some (.sl qw (xd d es) es)else none
  |_::_=>none
 | .kj qw Sa es none=>match ds with
  |[]=>none
  |_::_=>if Sa=ds/\d=1/\xm=es.length then some (.sl qw (xd d (es.map fun p=>[p])) (es.map fun p=>[p]))else none
 |_=>none
def U6(H:qp)(β:Nat):qp:=
 match H.get β with
 |some (.kj false (d::ds) es (some (i,γ,xm)))=>match H.get γ with
  |some b=>match X2 d ds xm b with
   |some p=>qp.put (qp.put H β (.kj false (d::ds) (es.set i p) none)) γ .xH
   |none=>H
  |none=>H
 |_=>H
def WT:Nat->qp->Nat->qp
 |0,H,_=>H
 |n+1,H,β=>match H.get β with
  |some (.kj _ _ _ (some x))=>U6 (WT n H x.2.1) β
  |_=>H
def bK(s:St)(t:Nat):AV:=
 if t<1000 then s.env.get t else match s.env.get (t % 1000)with
  | .ptr β o=>match s.heap.get β with
   |some (.box c)=>match c[o+(t / 1000-1)]? with|some v=>v|none=> .undef
   |_=> .undef
  |_=> .undef
def Rv(s:St):List Nat->Option (List Nat)
 |[]=>some []
 |t::r=>match vW (bK s t),Rv s r with
  |some n,some l=>some (n::l)
  |_,_=>none
def Qi(s:St)(t:Nat)(v:AV):St:=
 if t<1000 then{ s with env:=(t,v)::s.env }else match s.env.get (t % 1000)with
  | .ptr β o=>match s.heap.get β with
   |some (.box c)=>if o+(t / 1000-1)<c.length then{ s with heap:=qp.put s.heap β (.box (c.set (o+(t / 1000-1)) v)) }else s
   |_=>s
  |_=>s
def W0(n:Nat):qJ->Option (Nat×qJ)
 | .row false sz es=>if n<=es.length then some (es.length,.row false sz (es.take n))else none
 | .kj qw ei es none=>if n<=es.length then some (es.length,.kj qw ei (es.take n) none)else none
 |_=>none
def Qe:List Nat->qJ
 |[]=> .row true 0 []
 |d::ds=> .kj true (d::ds) [] none
def Kh(s:St):AV->List Nat
 | .ptr β _=>match s.heap.get β with
  |some (.box c)=>AV.rows.QN c
  |_=>[]
 |v=>v.rows
def VO(c:D7)(s:St):St:=
 match c with
 | .focus t is=>match bK s t,Rv s is with
  | .row β _ 0 _,some l=>{ s with heap:=(dw s.heap s.nx β l).1,nx:=(dw s.heap s.nx β l).2 }
  |_,_=>s
 | .pack t=>match bK s t with
  | .row β _ _ _=>{ s with heap:=WT 4 s.heap β }
  |_=>s
 | .cut t=>match bK s t with
  | .row β xm 0 n=>match s.heap.get β with
   |some b=>match W0 n b with
    |some (l,y)=>if xm=l then Qi { s with heap:=qp.put (qp.put s.heap β .xH) s.nx y,nx:=s.nx+1 } t (.row s.nx n 0 n)else s
    |none=>s
   |none=>s
  |_=>s
 | .prom t ei=>match bK s t with
  | .pv (.sl true _ [])=>Qi { s with heap:=qp.put s.heap s.nx (Qe ei),nx:=s.nx+1 } t (.row s.nx 0 0 0)
  |_=>s
 | .Hb t=>gf (Kh s (bK s t)) s
def pN:List D7->St->St
 |[],s=>s
 |c::r,s=>pN r (VO c s)
inductive Ex where
 |normal
 |ret
 |exit (id:Nat)
 deriving DecidableEq,Inhabited
structure xt where
 call:FuncId->List AV->qp->Option (AV×qp)
 loop:FuncId->Nat->St->Option (Ex×St)
def AV.cq(g:Nat->Nat):AV->AV
 | .ptr β o=> .ptr (g β) o
 | .uS β v i o=> .uS (g β) v i o
 | .row β v off n=> .row (g β) v off n
 | .map β=> .map (g β)
 | .agg c=> .agg (lP g c)
 | .xW c=> .xW (lP g c)
 | .Q3 f a b=> .Q3 f (lP g a) (lP g b)
 |v=>v
where lP (g:Nat->Nat):List AV->List AV
 |[]=>[]
 |v::r=>AV.cq g v::lP g r
def qJ.cq(g:Nat->Nat):qJ->qJ
 | .kj qw ei es l4=> .kj qw ei es (l4.map fun x=>(x.1,g x.2.1,x.2.2))
 | .box c=> .box (AV.cq.lP g c)
 | .mr sz es=> .mr sz (es.map (AV.cq.lP g))
 |b=>b
def qJ.refs:qJ->List Nat
 | .kj _ _ _ l4=>match l4 with|some x=>[x.2.1]|none=>[]
 | .box c=>AV.refs.pI c
 | .mr _ es=>es.flatMap AV.refs.pI
 |_=>[]
def pos:List Nat->Nat->Nat
 |[],_=>0
 |β::r,x=>if β=x then 0 else pos r x+1
def WC:List Nat->Nat->Bool
 |[],_=>false
 |β::r,x=>if β=x then true else WC r x
def Gf:List Nat->List Nat->Bool
 |[],_=>true
 |x::r,L=>WC L x&&Gf r L
def so(H:qp)(β:Nat):qJ:=match H.get β with|some b=>b|none=> .xH
def nT(H:qp):Nat->List Nat->List Nat->List Nat
 |0,_,d=>d
 |_+1,[],d=>d
 |n+1,β::r,d=>if WC d β then nT H n r d else nT H n (r++(so H β).refs) (d++[β])
def pT(H:qp)(L:List Nat):List Nat->Bool
 |[]=>true
 |β::r=>(match H.get β with|some b=>Gf b.refs L|none=>false)&&pT H L r
def pick(H:qp)(g:Nat->Nat):Nat->List Nat->qp
 |_,[]=>[]
 |i,β::r=>(i,(so H β).cq g)::pick H g (i+1) r
def sg(H:qp)(d:List Nat)(roots:List Nat):Option (List Nat×qp):=
 match roots,d with
 |[],[]=>some ([],[])
 |roots,d=>
  let L:=nT H 400 (roots++d.flatMap fun β=>(so H β).refs) d
  if Gf roots L&&pT H L L then some (L,pick H (pos L) 0 L)else none
def za:List (Nat×qJ)->qp->qp
 |[],H=>H
 |(i,b)::r,H=>za r (qp.put H i b)
def jm(L:List Nat)(nx:Nat)(j:Nat):Nat:=match L[j]? with|some β=>β|none=>nx+(j-L.length)
def yg(g:Nat->Nat):qp->List (Nat×qJ)
 |[]=>[]
 |(i,b)::r=>(g i,b.cq g)::yg g r
def uU:Nat->qp->Bool
 |_,[]=>true
 |i,(j,_)::r=>decide (j=i)&&uU (i+1) r
def eM(O:xt)(f:FuncId)(args:List AV)(H:qp)(nx:Nat):Option my:=
 match sg H [] (AV.refs.pI args)with
 |none=>none
 |some (L,H0)=>
  match O.call f (AV.cq.lP (pos L) args) H0 with
  |none=>none
  |some (v,H')=>if uU 0 H' =true then some (v.cq (jm L nx),yg (jm L nx) H',nx+(H'.length-L.length))else none
def orT:Option my->Option my->Option my
 |some r,_=>some r
 |none,y=>y
def rC(G:GP)(b:Builtin)(cu:List TypeId)(args:List AV)(H:qp)(nx:Nat):Option my:=
 match b,cu,args with
 | .len,t::_,[x]=>match G.ti t with
  |some ti=>if ZT ti.td x=true then match Bh x H with|some n=>some (.pv (.int .i64 n),[],nx)|none=>none else none
  |none=>none
 | .unsafeSliceData,_,[x]=>tD x H nx
 | .unsafeString,tp::_,[p,x]=>match G.ti tp with
  |some ti=>match ti.pe with
   |some el=>match G.ti el with|some tel=>if tel.size=1 then gH el p x H nx else none|none=>none
   |none=>none
  |none=>none
 | .max,_,l=>match IJ true l with|some p=>some (.pv p,[],nx)|none=>none
 | .min,_,l=>match IJ false l with|some p=>some (.pv p,[],nx)|none=>none
 | .append,ts::tx::_,[s,x]=>match G.ti ts,G.ti tx with
  |some ti,some oJ=>match ti.td,oJ.td with
   | .slice e,.slice _=>match G.ti e with|some te=>orT (hZ te s x H nx) (orT (bA e te s x H nx) (nP te s x H nx))|none=>none
   | .slice e,.string=>match G.ti e with|some te=>orT (hZ te s x H nx) (orT (bA e te s x H nx) (nP te s x H nx))|none=>none
   |_,_=>none
  |_,_=>none
 | .copy,ts::_,[s,x]=>match G.ti ts with
  |some ti=>match ti.td with
   | .slice e=>match G.ti e with|some te=>Zz te s x H nx|none=>none
   |_=>none
  |none=>none
 | .delete,tm::_,[m,k]=>match G.ti tm with
  |some ti=>match ti.td with
   | .map tk _=>match G.ti tk with
    |some tk=>match cl tk m k H with|some ws=>some (.xW [],ws,nx)|none=>none
    |none=>none
   |_=>none
  |none=>none
 |_,_,_=>none
def cH(G:GP)(t:TypeId):Option (TI×TI):=
 match G.ti t with
 |some ti=>match ti.td with
  | .map k e=>match G.ti k,G.ti e with
   |some tk,some te=>some (tk,te)
   |_,_=>none
  |_=>none
 |none=>none
def mo(ws:Option (List (Nat×qJ)))(nx:Nat):Option my:=match ws with|some ws=>some (.xW [],ws,nx)|none=>none
def bM(v:Option AV)(nx:Nat):Option my:=match v with|some v=>some (v,[],nx)|none=>none
def Jz(v:Option PV)(nx:Nat):Option my:=match v with|some v=>some (.pv v,[],nx)|none=>none
def isBytes(G:GP)(t:TypeId):Bool:=
 match G.ti t with
 |some ti=>match ti.td with
  | .slice e=>match G.ti e with
   |some te=>match te.td with
    | .int .u8=>true
    |_=>false
   |none=>false
  |_=>false
 |none=>false
def Zy(G:GP)(t:TypeId)(ti:TI)(nx:Nat):Option my:=none
def tU(G:GP)(t:TypeId)(x:AV)(H:qp)(nx:Nat):Option my:=none
def lk(G:GP)(t:TypeId)(m k x:AV)(H:qp)(nx:Nat):Option my:=
 match cH G t with
 |some (tk,te)=>if x.slc=true then mo (dV tk m k x H) nx else none
 |none=>none
def aBox(Hb:Bool)(c:List AV)(nx:Nat):Option my:=
 if Hb=true then match ll c with|some l=>some (.pv (.rp l),[],nx)|none=>none else some (.ptr nx 0,[(nx,.box c)],nx+1)
def mz(G:GP)(O:xt)(o:Op)(E:yu)(H:qp)(nx:Nat):Option my:=
 match o with
 | .move x=>some (ev E x,[],nx)
 | .assign x=>some (ev E x,[],nx)
 | .pick c a b=>match ev E c with| .pv (.bool t)=>some (if t then ev E a else ev E b,[],nx)|_=>none
 | .alloc t=>match G.ti t with|some ti=>if G.Ep t=true then Zy G t ti nx else some (.ptr nx 0,[(nx,.box (ti.zero.map .pv))],nx+1)|none=>none
 | .box t x=>if(ev E x).MA=true then aBox (G.Hb t) (ev E x).cells nx else none
 | .build t parts=>match G.ti t with|some ti=>bM (KC ti G.ti (ev E) parts.toList) nx|none=>none
 | .buildSlice t len parts=>match G.ti t with
  |some ti=>match ti.td with
   | .slice e=>match G.ti e with
    |some te=>if 0<te.size/\len*te.size<=2^24 then if G.Ep t=true then(match pV te.size (ev E) parts.toList (e? len (te.zero.map .pv))with
     |some es=>some (.row nx es.length 0 es.length,[(nx,.mr te.size es)],nx+1)
     |none=>none)else match rH te.size (ev E) parts.toList (e? len te.zero)with
     |some es=>some (.row nx es.length 0 es.length,[(nx,.row false te.size es)],nx+1)
     |none=>none
     else none
    |none=>none
   |_=>none
  |none=>none
 | .load t a=>match G.ti t with|some ti=>bM (QB ti (ev E a) H) nx|none=>none
 | .store t a x=>match G.ti t with|some ti=>mo (o6 ti (ev E a) (ev E x) H) nx|none=>none
 | .nilCheck x=>match ev E x with
  | .ptr β o=>some (.ptr β o,[],nx)
  | .tQ c o=>some (.tQ c o,[],nx)
  | .pv (.rp c)=>some (.pv (.rp c),[],nx)
  | .uS β v i o=>some (.uS β v i o,[],nx)
  | .pv (.fn f)=>some (.pv (.fn f),[],nx)
  | .Q3 f a b=>some (.Q3 f a b,[],nx)
  |_=>none
 | .binOp op t x y _=>match G.ti t with|some ti=>Jz (Pq G.ti op ti (ev E x) (ev E y) H) nx|none=>none
 | .unOp op _ x=>Jz (aUn op (ev E x)) nx
 | .convert s d x=>if s=d then tU G s (ev E x) H nx else match G.ti s,G.ti d with|some ts,some td=>rD ts.td td.td G.ti (ev E x) H nx|_,_=>none
 | .makeFunc (.func f) a b=>some (match a.toList,b.toList with|[],[]=> .pv (.fn f)|a,b=> .Q3 f (a.map (ev E)) (b.map (ev E)),[],nx)
 | .makeMap t none=>some (.map nx,[(nx,.map [] 0)],nx+1)
 | .slice t x lo hi mx=>match G.ti t with|some ti=>bM (eh ti.td G.ti (ev E) (ev E x) lo hi mx H) nx|none=>none
 | .fieldAddr t x f=>match G.ti t with|some ti=>bM (o5 ti.td (ev E x) f) nx|none=>none
 | .field t x f=>match G.ti t with
  |some ti=>match ti.td with
   | .struct fs=>match fs[f]? with
    |some (off,_,tf)=>match G.ti tf with|some tif=>bM (Bm tif (ev E x) off) nx|none=>none
    |none=>none
   |_=>none
  |none=>none
 | .indexAddr t x i=>match G.ti t with|some ti=>bM (tC ti.td G.ti (ev E x) (ev E i) H) nx|none=>none
 | .index t x i=>match G.ti t with
  |some ti=>match ti.td,ev E x,vW (ev E i)with
   | .string,.pv (.str s),some k=>match s[k]? with|some b=>some (.pv (.int .u8 b.toNat),[],nx)|none=>none
   | .array len e,x,some k=>if k<len then match G.ti e with|some te=>bM (Bm te x (k*te.size)) nx|none=>none else none
   |_,_,_=>none
  |none=>none
 | .lookup t m k ok=>match cH G t with|some (tk,te)=>bM (if G.Ep t=true then lj tk te (ev E m) (ev E k) ok H else aE tk te (ev E m) (ev E k) ok H) nx|none=>none
 | .mapUpdate t m k x=>if G.Ep t=true then lk G t (ev E m) (ev E k) (ev E x) H nx else match cH G t,WW (ev E x)with
  |some (tk,te),some p=>if p.cells.length=te.size then mo (rE tk (ev E m) (ev E k) p H) nx else none
  |_,_=>none
 | .insert t m k x=>match cH G t,WW (ev E x)with
  |some (tk,te),some p=>if p.cells.length=te.size then mo (rE tk (ev E m) (ev E k) p H) nx else none
  |_,_=>none
 | .mapEntry t m k=>match cH G t with
  |some (tk,te)=>match lh tk te (ev E m) (ev E k) H with|some (v,ws)=>some (v,ws,nx)|none=>none
  |none=>none
 | .entryStore _ m st x=>match WW (ev E x)with|some p=>mo (bP (ev E m) (ev E st) p H) nx|none=>none
 | .extract t i=>match ev E t with
  | .xW l=>match l[i]? with|some v=>some (v,[],nx)|none=>none
  |_=>none
 | .call { callee:= .builtin b,args,argTypes }=>rC G b argTypes.toList (args.toList.map (ev E)) H nx
 | .call { callee:= .value f,args,.. }=>match ev E f with
  | .pv (.fn f)=>eM O f (args.toList.map (ev E)) H nx
  | .Q3 f a b=>eM O f (a++args.toList.map (ev E)++b) H nx
  |_=>none
 | .makeSlice t l c=>match G.ti t with|some ti=>sE ti.td G.ti (ev E l) (ev E c) nx|none=>none
 |_=>none
def NF(G:GP)(o:Op)(E:yu):List Nat:=
 match o with
 | .store _ a x=>match ev E a with| .uS _ _ _ _=>(ev E x).rows|_=>[]
 | .buildSlice t _ parts=>if G.Ep t then[]else AV.rows.QN (parts.toList.map fun x=>ev E x.2)
 | .mapUpdate _ _ _ x=>(ev E x).rows
 | .insert _ _ _ x=>(ev E x).rows
 | .entryStore _ _ _ x=>(ev E x).rows
 | .call { callee:= .value f,args,.. }=>match ev E f with
  | .pv (.fn f)=>if G.owned f then[]else AV.rows.QN (args.toList.map (ev E))
  | .Q3 f _ _=>if G.owned f then[]else AV.rows.QN (args.toList.map (ev E))
  |_=>[]
 |_=>[]
def yF(all:List Oper)(o:Oper)(E:yu):Option Bool:=
 match o.guard with
 |none=>some true
 |some (j,want)=>match all[j]? with
  |some oj=>match oj.dst with
   |some d=>match E.get d with
    | .pv (.bool b)=>some (b==want)
    | .xW []=>some false
    |_=>none
   |none=>some false
  |none=>some false
def fp(d:Option Tmp)(v:AV)(E:yu):yu:=match d with|some d=>(d,v)::E|none=>E
def Xe(G:GP)(O:xt)(o:Oper)(s:St):Option St:=
 match mz G O o.op s.env s.heap s.nx with
 |some (v,ws,nx)=>some { env:=fp o.dst v s.env,heap:=za ws s.heap,nx:=nx }
 |none=>none
def Xy(G:GP)(O:xt)(all:List Oper):List Oper->St->Option St
 |[],s=>some s
 |o::r,s=>
  match yF all o s.env with
  |some true=>match Xe G O o (gf (NF G o.op s.env) s)with
   |some s' =>Xy G O all r s'
   |none=>none
  |some false=>Xy G O all r { s with env:=fp o.dst (.xW []) s.env }
  |none=>none
def tw(o:Op)(E:yu)(H:qp):List Nat:=
 match o with
 | .load _ a=>(ev E a).refs
 | .store _ a _=>(ev E a).refs
 | .binOp _ _ x y _=>(ev E x).refs++(ev E y).refs
 | .convert _ _ x=>(ev E x).refs
 | .slice _ x _ _ _=>(ev E x).refs
 | .indexAddr _ x _=>(ev E x).refs
 | .lookup _ m _ _=>(ev E m).refs
 | .mapUpdate _ m _ _=>(ev E m).refs
 | .insert _ m _ _=>(ev E m).refs
 | .mapEntry _ m _=>(ev E m).refs
 | .entryStore _ m _ _=>(ev E m).refs
 | .call { callee:= .builtin _,args,.. }=>AV.refs.pI (args.toList.map (ev E))
 | .call { callee:= .value f,args,.. }=>match ev E f with
  | .pv (.fn _)=>nT H 400 (AV.refs.pI (args.toList.map (ev E))) []
  | .Q3 _ a b=>nT H 400 (AV.refs.pI (a++args.toList.map (ev E)++b)) []
  |_=>[]
 |_=>[]
def Hs(ms:List Nat)(o:Oper):Nat:=o.after.toList.foldl (fun m e=>if Region.binds .any e=true then m ||| (1 <<< e.on) ||| ms.getD e.on 0 else m) 0
def wR(ms:List Nat):List Oper->List Nat
 |[]=>ms
 |o::r=>wR (ms++[Hs ms o]) r
def ordered(ms:List Nat)(i j:Nat):Bool:=(ms.getD j 0).testBit i
def JP:List Nat->List Nat->Bool
 |[],_=>true
 |x::r,L=> !WC L x&&JP r L
def Q2(ms:List Nat)(j:Nat)(rd wr:List Nat):List (Nat×List Nat×List Nat)->Bool
 |[]=>true
 |(i,rdi,wri)::r=>(ordered ms i j || (JP wri rd&&JP wri wr&&JP rdi wr))&&Q2 ms j rd wr r
def mC(ms:List Nat):List (Nat×List Nat×List Nat)->Bool
 |[]=>true
 |(j,rd,wr)::r=>Q2 ms j rd wr r&&mC ms r
mutual
def PV.kR:PV->PV->Bool
 | .bool a,.bool b=>a==b
 | .int k a,.int l b=>decide (k=l)&&decide (a=b)
 | .str a,.str b=>decide (a=b)
 | .agg a,.agg b=>PV.ar a b
 | .sl n z a,.sl m y b=>n==m&&decide (z=y)&&PV.cf a b
 | .yj,.yj=>true
 | .fg,.fg=>true
 | .n9,.n9=>true
 | .eY,.eY=>true
 | .fn f,.fn g=>decide (f=g)
 | .rp a,.rp b=>PV.ar a b
 |_,_=>false
def PV.ar:List PV->List PV->Bool
 |[],[]=>true
 |x::r,y::q=>PV.kR x y&&PV.ar r q
 |_,_=>false
def PV.cf:List (List PV)->List (List PV)->Bool
 |[],[]=>true
 |x::r,y::q=>PV.ar x y&&PV.cf r q
 |_,_=>false
end
def AV.kR:AV->AV->Bool
 | .pv a,.pv b=>PV.kR a b
 | .ptr b o,.ptr c q=>decide (b=c)&&decide (o=q)
 | .row b v o n,.row c w q m=>decide (b=c)&&decide (v=w)&&decide (o=q)&&decide (n=m)
 | .iW,.iW=>true
 | .map b,.map c=>decide (b=c)
 |_,_=>false
def AV.ar:List AV->List AV->Bool
 |[],[]=>true
 |x::r,y::q=>AV.kR x y&&AV.ar r q
 |_,_=>false
def AV.cf:List (List AV)->List (List AV)->Bool
 |[],[]=>true
 |x::r,y::q=>AV.ar x y&&AV.cf r q
 |_,_=>false
def qJ.kR:qJ->qJ->Bool
 | .box a,.box b=>AV.ar a b
 | .row n z a,.row m y b=>n==m&&decide (z=y)&&PV.cf a b
 | .mr z a,.mr y b=>decide (z=y)&&AV.cf a b
 | .xH,.xH=>true
 |_,_=>false
def Tg(H:qp)(β:Nat)(b:qJ):Bool:=match H.get β with|some c=>qJ.kR c b|none=>false
def trim(rd:List Nat):qp->List (Nat×qJ)->List (Nat×qJ)
 |_,[]=>[]
 |H,(β,b)::r=>if WC rd β&&Tg H β b then trim rd H r else(β,b)::trim rd (H.put β b) r
def eG(tm:Bool)(rd:List Nat)(H:qp)(ws:List (Nat×qJ)):List (Nat×qJ):=match tm with|true=>trim rd H ws|false=>ws
def lW:List Nat->Bool
 |[]=>false
 |x::r=>x==999999 || lW r
def dX(G:GP)(O:xt)(all:List Oper)(tm:Bool):Nat->List Oper->St->List (Nat×List Nat×List Nat)->Option St
 |_,[],s,log=>if mC (wR [] all) log=true then some s else none
 |i,o::r,s,log=>
  match yF all o s.env with
  |some true=>match mz G O o.op s.env s.heap s.nx with
   |some (v,ws,nx)=>dX G O all tm (i+1) r ⟨fp o.dst v s.env,za (eG tm (tw o.op s.env s.heap) s.heap ws) s.heap,nx⟩ ((i,tw o.op s.env s.heap,(eG tm (tw o.op s.env s.heap) s.heap ws).map (·.1))::log)
   |none=>none
  |some false=>dX G O all tm (i+1) r { s with env:=fp o.dst (.xW []) s.env } log
  |none=>none
def restrict(E:yu):List Nat->yu
 |[]=>[]
 |t::r=>(t,E.get t)::restrict E r
def setEnv:yu->Nat->AV->yu
 |[],n,x=>[(n,x)]
 |(i,v)::r,n,x=>if i=n then(i,x)::r else(i,v)::setEnv r n x
def ku:List Nat->St->St
 |[],s=>s
 |t::r,s=>match s.env.get t with
  | .pv (.sl true _ [])=>ku r { env:=setEnv s.env t (.row s.nx 0 0 0),heap:=qp.put s.heap s.nx (.row true 0 []),nx:=s.nx+1 }
  |_=>ku r s
def xl:List (Nat×Nat)->St->St
 |[],s=>s
 |(t,k)::r,s=>match s.env.get t with
  | .ptr β o=>match s.heap.get β with
   |some (.box c)=>match c[o+k]? with
    |some (.pv (.sl true _ []))=>
     xl r { env:=s.env,heap:=qp.put (qp.put s.heap s.nx (.row true 0 [])) β (.box (c.set (o+k) (.row s.nx 0 0 0))),nx:=s.nx+1 }
    |_=>xl r s
   |_=>xl r s
  |_=>xl r s
def C1(H:qp):AV->List Nat
 | .ptr β _=>match H.get β with
  |some (.box c)=>AV.rows.QN c
  |_=>[]
 |v=>v.rows
def Bx(H:qp)(k:Nat):AV->List Nat
 | .ptr β o=>match H.get β with
  |some (.box c)=>match c[o+k]? with|some v=>v.rows|none=>[]
  |_=>[]
 |_=>[]
def di(E:yu)(H:qp):List Nat->List Nat
 |[]=>[]
 |t::r=>(if t<1000 then C1 H (E.get t)else Bx H (t / 1000-1) (E.get (t % 1000)))++di E H r
def enter(sp:py)(s:St):St:=
 let s1:=xl sp.xl (ku sp.ku s)
 let s2:=gf (di s1.env s1.heap sp.freeze) s1
 { s2 with env:=restrict s2.env sp.Hr }
def cx(n:Nat):List Nat->Bool
 |[]=>true
 |x::r=>decide (x<n)&&cx n r
def yu.below(n:Nat):yu->Bool
 |[]=>true
 |(_,v)::r=>cx n v.refs&&yu.below n r
def qp.upto(n:Nat):qp->qp
 |[]=>[]
 |(i,b)::r=>if i<n then(i,b)::qp.upto n r else qp.upto n r
def qp.below(n:Nat):qp->Bool
 |[]=>true
 |(_,b)::r=>cx n b.refs&&qp.below n r
def narrow(V9:List Nat)(n:Nat)(s:St):Option St:=
 let E:=restrict s.env V9
 let H:=qp.upto n s.heap
 if yu.below n E&&qp.below n H then some ⟨E,H,n⟩else none
def eX(V9:List Nat)(n:Nat)(s:St):St:=
 match narrow V9 n s with
 |some s' =>s'
 |none=>{ s with env:=restrict s.env V9 }
def Rh(g:Nat->Nat):yu->yu
 |[]=>[]
 |(t,v)::r=>(t,v.cq g)::Rh g r
def Um:yu->List Nat
 |[]=>[]
 |(_,v)::r=>v.refs++Um r
def canon(V9:List Nat)(n:Nat)(s:St):Option St:=
 match sg s.heap (F? n) (Um (restrict s.env V9))with
 |some (L,H')=>some ⟨Rh (pos L) (restrict s.env V9),H',H'.length⟩
 |none=>none
def ej(sp:py)(s:St):Option St:=
 if sp.own=1000 then some (enter sp s)else
 match sp.own with
 |0=>some (enter sp s)
 |k+1=>match canon sp.Hr s.nx (enter sp s)with
  |some s1=>if s1.nx=s.nx+(k+1)then some s1 else none
  |none=>none
def ZS(sp:py)(n:Nat)(s:St):Option St:=if n<=s.nx then some { s with env:=restrict s.env sp.Hr }else none
def again(sp:py)(n:Nat)(s' :St):Option St:=
 if sp.own=1000 then ZS sp n (xl sp.xl (ku sp.ku s'))else
 match sp.own with
 |0=>narrow sp.Hr n s'
 |k+1=>match canon sp.Hr (n-(k+1)) (xl sp.xl (ku sp.ku s'))with
  |some s1=>if s1.nx=n then some s1 else none
  |none=>none
def leave(sp:py)(n:Nat)(s' :St):Option St:=
 if sp.own=1000 then some { s' with env:=restrict s'.env sp.out }else
 match sp.own with
 |0=>some (eX sp.out n s')
 |k+1=>canon sp.out (n-(k+1)) s'
def left(ex:Ex):Option St->Option (Ex×St)
 |some s=>some (ex,s)
 |none=>none
def zQ:Code->Nat->Option Code
 | .seq a b,i=>match zQ a i with|some c=>some c|none=>zQ b i
 | .block id (.loop c),i=>if id=i then some c else zQ c i
 | .block _ c,i=>zQ c i
 | .cond _ a b,i=>match zQ a i with|some c=>some c|none=>zQ b i
 | .loop c,i=>zQ c i
 |_,_=>none
def pres(G:GP)(f:FuncId)(id:Nat)(s:St):St:=gf (di s.env s.heap (G.pre f id)) s
def exec(G:GP)(O:xt)(f:FuncId):Code->St->Option (Ex×St)
 | .skip,s=>some (.normal,s)
 | .region id ops false,s=>match Xy G O ops.toList ops.toList (pN (G.cmd f (2*id)) s)with|some s' =>some (.normal,pN (G.cmd f (2*id+1)) s')|none=>none
 | .region id ops true,s=>match dX G O ops.toList (lW (G.pre f id)) 0 ops.toList (pres G f id (pN (G.cmd f (2*id)) s)) []with|some s' =>some (.normal,pN (G.cmd f (2*id+1)) s')|none=>none
 | .seq a b,s=>match exec G O f a s with
  |some (.normal,s')=>exec G O f b s'
  |some (.ret,s')=>some (.ret,s')
  |some (.exit i,s')=>some (.exit i,s')
  |none=>none
 | .cond c t e,s=>match ev s.env c with
  | .pv (.bool b)=>match b with
   |true=>exec G O f t s
   |false=>exec G O f e s
  |_=>none
 | .block id (.loop _),s=>match ej (G.spec f id) s with
  |some s1=>O.loop f id s1
  |none=>none
 | .block id c,s=>match exec G O f c s with
  |some (.exit i,s')=>if i=id then some (.normal,s')else some (.exit i,s')
  |some (.normal,s')=>some (.normal,s')
  |some (.ret,s')=>some (.ret,s')
  |none=>none
 | .exit id,s=>some (.exit id,s)
 | .ret,s=>some (.ret,s)
 |_,_=>none
def mK(G:GP)(O:xt)(f:FuncId)(id:Nat)(s:St):Option (Ex×St):=
 match G.fn f with
 |none=>none
 |some fi=>match zQ fi.body id with
  |none=>none
  |some c=>match exec G O f c s with
   |some (.normal,s')=>match again (G.spec f id) s.nx (gf (di s'.env s'.heap (G.spec f id).freeze) s')with
    |some s'' =>O.loop f id s''
    |none=>none
   |some (.exit i,s')=>if i=id then left .normal (leave (G.spec f id) s.nx s')else left (.exit i) (leave (G.spec f id) s.nx s')
   |some (.ret,s')=>left .ret (leave (G.spec f id) s.nx s')
   |none=>none
def Uq(G:GP)(s:St):ResultVar->Option AV
 | .tmp t=>some (s.env.get t)
 | .cell a t=>match G.ti t with|some ti=>QB ti (s.env.get a) s.heap|none=>none
def ai(G:GP)(s:St):List ResultVar->Option (List AV)
 |[]=>some []
 |r::l=>match Uq G s r,ai G s l with
  |some v,some vs=>some (v::vs)
  |_,_=>none
def lX:List AV->AV
 |[v]=>v
 |l=> .xW l
def unz:AV->AV
 | .iW=> .pv (.sl false 0 [])
 |v=>v
def finish(m:Nat)(sk:Bool)(v:AV)(s:St):Option (AV×qp):=
 let s1:=if sk then{ s with env:=[(0,v)] }else gf v.rows { s with env:=[(0,v)] }
 let v1:=unz (s1.env.get 0)
 match sg s1.heap (F? m) v1.refs with
 |some (L,H)=>some (v1.cq (pos L),H)
 |none=>none
def rF:Nat->List AV->yu
 |_,[]=>[]
 |i,v::r=>(i,v)::rF (i+1) r
def lQ(G:GP)(O:xt)(f:FuncId)(args:List AV)(H:qp):Option (AV×qp):=
 match G.fn f with
 |none=>none
 |some fi=>if uU 0 H=true then match exec G O f fi.body ⟨rF 0 args,H,H.length⟩with
  |some (.exit _,_)=>none
  |some (_,s)=>match ai G (pN (G.cmd f 999999) s) fi.results with
   |some vs=>finish H.length (G.sk f) (lX vs) (pN (G.cmd f 999999) s)
   |none=>none
  |none=>none
  else none
structure mX where
 call:FuncId->Option (List AV->qp->Option (AV×qp))
def WQ(G:GP)(S:mX):Nat->xt
 |0=>⟨fun _ _ _=>none,fun _ _ _=>none⟩
 |n+1=>⟨fun f args H=>match S.call f with|some g=>g args H|none=>lQ G (WQ G S n) f args H,fun f id s=>mK G (WQ G S n) f id s⟩
set_option linter.unusedSectionVars false
def PV.wc:PV->Bool
 | .agg _=>false
 |_=>true
def AV.wc:AV->Bool
 | .pv p=>p.wc
 | .agg _| .xW _| .undef=>false
 |_=>true
def dz:Value->Bool
 | .agg _| .tuple _=>false
 |_=>true
inductive Sk where
 |leaf
 |node (b cap:Nat) (ks:List Sk)
 deriving Inhabited
structure Pl where
 b:Nat
 cap:Nat
 ks:List Sk:=[]
def Pl.kR(p q:Pl):Prop:=p.b=q.b/\p.cap=q.cap
theorem Pl.J0(p:Pl):p.kR p:=⟨rfl,rfl⟩
theorem Pl.Rt{p q r:Pl}(h1:p.kR q)(h2:q.kR r):p.kR r:=⟨h1.1.trans h2.1,h1.2.trans h2.2⟩
def Sk.blocks:Sk->List Nat
 | .leaf=>[]
 | .node b _ ks=>b::ks.flatMap Sk.blocks
abbrev yv:=Nat->Pl
def wQ(fz:Nat×Nat)(n:Nat):Prop:=fz.1<=fz.2/\ ∀i,i<n-> ¬(fz.1<=i/\i<fz.2)
inductive RP (w:World) (Im:Nat->Prop):PV->Value->Prop
 |bool (b:Bool):RP w Im (.bool b) (.bool b)
 |int (k:IntKind) (n:Int):RP w Im (.int k n) (.int k n)
 |str (l:List UInt8):RP w Im (.str l) (.string ⟨⟨l⟩⟩)
 |agg (c:List PV) (vs:List Value) (hl:c.length=vs.length) (hf: ∀p∈c,p.wc=true)
   (h: ∀(i:Nat) p v,c[i]? =some p->vs[i]? =some v->RP w Im p v):RP w Im (.agg c) (.agg ⟨vs⟩)
 |aP (sz:Nat):RP w Im (.sl true sz []) (.slice none 0 0)
 |sl (sz:Nat) (es:List (List PV)) (b off cap:Nat) (vs:Nat->Value) (Qt:es≠[]->Im b) (JV:es.length<=cap)
   (ml: ∀e∈es,e.length=sz) (hc: ∀i,i<es.length*sz->w.cell? ⟨b,off+i,none⟩=some (vs i))
   (hf: ∀(i:Nat) e(j:Nat) p,es[i]? =some e->e[j]? =some p->p.wc=true)
   (h: ∀(i:Nat) e(j:Nat) p,es[i]? =some e->e[j]? =some p->RP w Im p (vs (i*sz+j)))
   (sp:Option Nat) (Sz:es≠[]->sp=none):RP w Im (.sl false sz es) (.slice (some ⟨b,off,sp⟩) es.length cap)
 |yj:RP w Im .yj (.pointer none)
 |fg:RP w Im .fg .nilFunc
 |n9:RP w Im .n9 (.map none)
 |eY:RP w Im .eY .nilIface
 |fn (f:FuncId):RP w Im (.fn f) (.func (.func f) #[] #[])
 |rp (c:List PV) (b off:Nat) (vs:Nat->Value) (Qt:Im b) (hc: ∀i,i<c.length->w.cell? ⟨b,off+i,none⟩=some (vs i))
   (hf: ∀p∈c,p.wc=true) (h: ∀(i:Nat) p,c[i]? =some p->RP w Im p (vs i)):RP w Im (.rp c) (.pointer (some ⟨b,off,none⟩))
inductive oV (w:World) (Im:Nat->Prop):List Nat->PV->Value->Sk->Prop
 |V4 (p:PV) (v:Value) (hs:p.V4=true) (h:RP w Im p v):oV w Im [] p v .leaf
 |nil (d:Nat) (ds:List Nat):oV w Im (d::ds) (.sl true 0 []) (.slice none 0 0) .leaf
 |sl (d:Nat) (ds:List Nat) (es:List (List PV)) (b o cap:Nat) (ks:List Sk) (vs:Array Value) (elem:TypeId) (fz:Nat×Nat) (hb:w.heap[b]? =some (.cells vs elem fz)) (hfz:wQ fz vs.size)
   (Ej:vs.size=cap*d) (hd:0<d) (hle:es.length<=cap) (ho:0<cap->o=0) (df: ∀e∈es,e.length=d) (N6:ks.length=es.flatten.length)
   (val:Nat->Value) (K1: ∀i,i<es.flatten.length->vs[i]? =some (val i)) (h: ∀(i:Nat) p k,es.flatten[i]? =some p->ks[i]? =some k->oV w Im ds p (val i) k):
   oV w Im (d::ds) (.sl false (xd d es) es) (.slice (some ⟨b,o,none⟩) es.length cap) (.node b cap ks)
theorem RP.mk{w:World}{Im:Nat->Prop}{b:Bool}{sz:Nat}{es:List (List PV)}{v:Value}(h:RP w Im (.sl b sz es) v):RP w Im (FD b sz es) v:=by
 cases es with
 |cons _ _=>exact h
 |nil=>cases h with
  |aP=>exact .aP 0
  |sl _ _ b off cap vs Qt JV ml hc hf hh sp Sz=>exact .sl 0 [] b off cap vs (fun h=>absurd rfl h) (E! _) z? (fun i xS=>by simp at xS) z? z? sp (fun h=>absurd rfl h)
def qJ.Li:qJ->Bool
 | .box _=>true
 |_=>false
inductive RA (w:World) (H:qp) (ι:yv) (Im:Nat->Prop):AV->Value->Prop
 |undef (v:Value):RA w H ι Im .undef v
 |pv (p:PV) (v:Value) (h:RP w Im p v):RA w H ι Im (.pv p) v
 |ptr (β o:Nat) (b:qJ) (hb:H.get β=some b) (hk:b.Li=true):RA w H ι Im (.ptr β o) (.pointer (some ⟨(ι β).b,o,none⟩))
 |uS (β xm i o b' o' :Nat) (b:qJ) (hb:H.get β=some b) (jJ: ∀qw sz l,b.sh=some (qw,sz,l)->xm<=l)
   (h: ∀qw sz l,b.sh=some (qw,sz,l)->xm=l->qw=false->b' =(ι β).b/\o' =i*sz+o):
   RA w H ι Im (.uS β xm i o) (.pointer (some ⟨b',o',none⟩))
 |row (β xm off n:Nat) (v:Value) (b:qJ) (ho:dz v=true) (hb:H.get β=some b) (hk:b≠ .xH-> ∃qw sz l,b.sh=some (qw,sz,l))
   (jJ: ∀qw sz l,b.sh=some (qw,sz,l)->xm<=l)
   (h: ∀qw sz l,b.sh=some (qw,sz,l)->xm=l->off+n<=l/\
    if qw=true then v= .slice none 0 0
    else ∃a,v= .slice (some a) n ((ι β).cap-off)/\a.spot=none/\a.block=(ι β).b/\(off<(ι β).cap->a.off=off*sz)):
   RA w H ι Im (.row β xm off n) v
 |tQ (c:List PV) (o b off:Nat) (vs:Nat->Value) (Qt:Im b) (hc: ∀i,i<c.length->w.cell? ⟨b,off+i,none⟩=some (vs i))
   (hf: ∀p∈c,p.wc=true) (h: ∀(i:Nat) p,c[i]? =some p->RP w Im p (vs i)):
   RA w H ι Im (.tQ c o) (.pointer (some ⟨b,off+o,none⟩))
 |iW (a:Addr):RA w H ι Im .iW (.slice (some a) 0 0)
 |map (β:Nat) (es:List (PV×PV×Nat)) (zN:Nat) (hb:H.get β=some (.map es zN)):RA w H ι Im (.map β) (.map (some (ι β).b))
 |Q3 (f:FuncId) (a b:List AV) (va vb:List Value) (VX:a.length=va.length) (Su:b.length=vb.length)
   (ha: ∀(i:Nat) x v,a[i]? =some x->va[i]? =some v->RA w H ι Im x v)
   (hb: ∀(i:Nat) x v,b[i]? =some x->vb[i]? =some v->RA w H ι Im x v):RA w H ι Im (.Q3 f a b) (.func (.func f) ⟨va⟩ ⟨vb⟩)
 |agg (c:List AV) (vs:List Value) (hl:c.length=vs.length) (hf: ∀x∈c,x.wc=true)
   (h: ∀(i:Nat) x v,c[i]? =some x->vs[i]? =some v->RA w H ι Im x v):RA w H ι Im (.agg c) (.agg ⟨vs⟩)
 |xW (c:List AV) (vs:List Value) (hl:c.length=vs.length)
   (h: ∀(i:Nat) x v,c[i]? =some x->vs[i]? =some v->RA w H ι Im x v):RA w H ι Im (.xW c) (.tuple ⟨vs⟩)
def qJ.used:qJ->Bool
 | .box _=>true
 | .row qw _ _=> !qw
 | .map _ _=>true
 | .mr _ _=>true
 | .kj qw _ _ _=> !qw
 | .xH=>false
def qJ.SE:qJ->Bool
 | .kj _ _ _ _=>true
 |_=>false
def qJ.yi(b:qJ)(p:Pl)(x:Nat):Prop:=b.used=true/\(x=p.b\/b.SE=true/\x∈p.ks.flatMap Sk.blocks)
def rA(w:World)(H:qp)(ι:yv)(Im:Nat->Prop)(β:Nat):qJ->Prop
 | .box c=> ∃vs elem fz,w.heap[(ι β).b]? =some (.cells vs elem fz)/\wQ fz vs.size/\c.length=vs.size/\
   (∀ x∈c,x.wc=true)/\ ∀(i:Nat) x v,c[i]? =some x->vs[i]? =some v->RA w H ι Im x v
 | .row true _ es=>es=[]
 | .row false sz es=> ∃vs elem fz,w.heap[(ι β).b]? =some (.cells vs elem fz)/\wQ fz vs.size/\vs.size=(ι β).cap*sz/\0<sz/\
   es.length<=(ι β).cap/\(∀ e∈es,e.length=sz)/\(∀(i:Nat) e(j:Nat) p,es[i]? =some e->e[j]? =some p->p.wc=true)/\
   ∀(i:Nat) e(j:Nat) p,es[i]? =some e->e[j]? =some p-> ∃v,vs[i*sz+j]? =some v/\RP w Im p v
 | .map es zN=> ∃xo:List MapEntry,w.heap[(ι β).b]? =some (.map ⟨xo⟩ zN)/\es.length=xo.length/\
   ∀(i:Nat)(k x:PV)(born:Nat) e,es[i]? =some (k,x,born)->xo[i]? =some e->RP w Im k e.key/\RP w Im x e.val/\e.born=born
 | .mr sz es=> ∃vs elem fz,w.heap[(ι β).b]? =some (.cells vs elem fz)/\wQ fz vs.size/\vs.size=(ι β).cap*sz/\0<sz/\
   es.length<=(ι β).cap/\(∀ e∈es,e.length=sz)/\(∀(i:Nat) e(j:Nat) x,es[i]? =some e->e[j]? =some x->x.wc=true)/\
   ∀(i:Nat) e(j:Nat) x,es[i]? =some e->e[j]? =some x-> ∃v,vs[i*sz+j]? =some v/\RA w H ι Im x v
 | .kj true _ es l4=>es=[]/\l4=none
 | .kj false ds es l4=> ∃vs elem fz,w.heap[(ι β).b]? =some (.cells vs elem fz)/\wQ fz vs.size/\vs.size=(ι β).cap/\es.length<=(ι β).cap/\(ι β).ks.length=es.length/\
   ((ι β).b::(ι β).ks.flatMap Sk.blocks).Nodup/\(∀ x∈(ι β).ks.flatMap Sk.blocks,x<w.heap.size)/\(∀ j γ xm,l4=some (j,γ,xm)->j<es.length)/\
   ∀(i:Nat) p k,es[i]? =some p->(ι β).ks[i]? =some k-> ∃v,vs[i]? =some v/\
    ((∀ j γ xm,l4=some (j,γ,xm)->i≠j)->oV w Im ds p v k)/\(∀ γ xm,l4=some (i,γ,xm)->k= .leaf/\RA w H ι Im (.row γ xm 0 xm) v)
 | .xH=>True
class xn where
 ok:World->Prop
 on:Nat->Prop
 frame: ∀{w w' :World},ok w->(∀ b,on b->w'.heap[b]? =w.heap[b]?)->ok w'
instance(priority:=low) noGlobs:xn:=⟨fun _=>True,fun _=>False,fun _ _=>trivial⟩
structure zf [xn] (w:World) (H:qp) (ι:yv) (Im:Nat->Prop):Prop where
 ru: ∀β b,H.get β=some b->rA w H ι Im β b
 inj: ∀β β' b b' x,H.get β=some b->H.get β' =some b' ->b.yi (ι β) x->b'.yi (ι β') x->β=β'
 im: ∀b,Im b->b<w.heap.size
 Vt: ∀β b x,H.get β=some b->b.yi (ι β) x-> ¬Im x
 N0:xn.ok w
 VS: ∀b,xn.on b->Im b
theorem xn.go[xn]{w w' :World}{Im:Nat->Prop}(h:xn.ok w)(h2: ∀b,xn.on b->Im b)(hk: ∀b,Im b->w'.heap[b]? =w.heap[b]?):xn.ok w' :=xn.frame h fun b hb=>hk b (h2 b hb)
def jc(x y:qJ)(p q:Pl):Prop:=
 match x.sh,y.sh with
 |some (qw,sz,l),some (rK,RH,l')=>l<=l' /\(l=l' ->qw=rK/\(qw=false->sz=RH/\p.kR q))
 |some _,none=>y= .xH
 |none,some _=>False
 |none,none=>match x,y with
  | .box _,.box _=>p=q
  | .map _ _,.map _ _=>p=q
  | .xH,.xH=>True
  |_,_=>False
theorem Q4{x y:qJ}{p q:Pl}{qw rK:Bool}{sz RH l l' :Nat}(hx:x.sh=some (qw,sz,l))(hy:y.sh=some (rK,RH,l')):
  jc x y p q=(l<=l' /\(l=l' ->qw=rK/\(qw=false->sz=RH/\p.kR q))):=by unfold jc;rw[hx,hy]
theorem Q5{x y:qJ}{p q:Pl}(h:jc x y p q){qw:Bool}{sz l:Nat}(hy:y.sh=some (qw,sz,l)): ∃oq sz0 l0,x.sh=some (oq,sz0,l0):=by cases hx:x.sh with|some q=>exact⟨_,_,_,rfl⟩|none=>unfold jc at h;rw[hx,hy]at h;exact(h:False).elim
theorem BG{x y:qJ}{p q:Pl}(h:jc x y p q){qw:Bool}{sz l:Nat}(hx:x.sh=some (qw,sz,l)):y= .xH\/ ∃oq sz0 l0,y.sh=some (oq,sz0,l0):=by unfold jc at h;rw[hx]at h;cases hy:y.sh with|none=>rw[hy]at h;exact .inl h|some q=>exact .inr ⟨_,_,_,rfl⟩
structure vj (w:World) (H:qp) (ι:yv) (Im:Nat->Prop) (w' :World) (H' :qp) (ι' :yv) (kh:Nat->Prop):Prop where
 comp: ∀β b,H.get β=some b-> ∃b',H'.get β=some b' /\jc b b' (ι β) (ι' β)
 im: ∀b,Im b->kh b
 pX: ∀b,kh b->Im b\/w.heap.size<=b\/ ∃β x,H.get β=some x/\x.yi (ι β) b
 nS: ∀β x z,H'.get β=some x->x.yi (ι' β) z->w.heap.size<=z\/ ∃β0 x0,H.get β0=some x0/\x0.yi (ι β0) z
 kR: ∀b,b<w.heap.size->(∀ β x,H.get β=some x-> ¬x.yi (ι β) b)->w'.heap[b]? =w.heap[b]?
 size:w.heap.size<=w'.heap.size
 io:w'.os=w.os/\w'.output=w.output
theorem gb(b:qJ)(p:Pl):jc b b p p:=by unfold jc;cases h:b.sh with|some q=>exact⟨ju _,fun _=>⟨rfl,fun _=>⟨rfl,p.J0⟩⟩⟩|none=>cases b<;>first|(simp only[qJ.sh]at h;cases h;done)|rfl|exact trivial
theorem ZE{x y z:qJ}{p q r:Pl}(h1:jc x y p q)(h2:jc y z q r):jc x z p r:=by
 have key: ∀{i1 i2 i3:Bool}{s1 s2 s3 l1 l2 l3:Nat},(l1<=l2/\(l1=l2->i1=i2/\(i1=false->s1=s2/\p.kR q)))->(l2<=l3/\(l2=l3->i2=i3/\(i2=false->s2=s3/\q.kR r)))->
   (l1<=l3/\(l1=l3->i1=i3/\(i1=false->s1=s3/\p.kR r))):=by
  intro i1 i2 i3 s1 s2 s3 l1 l2 l3 h1 h2;obtain⟨a1,b1⟩:=h1;obtain⟨a2,b2⟩:=h2;refine⟨p! a1 a2,fun e=>?_⟩;obtain⟨i1,j1⟩:=b1 o?;obtain⟨i2,j2⟩:=b2 o?;refine⟨i1.trans i2,fun hn=>?_⟩;obtain⟨k1,l1⟩:=j1 hn;obtain⟨k2,l2⟩:=j2 (i1 ▸ hn);exact⟨k1.trans k2,Pl.Rt l1 l2⟩
 unfold jc at h1 h2 |-;cases hx:x.sh with|some a=>(obtain⟨i1,s1,l1⟩:=a;rw[hx]at h1;cases hy:y.sh with|some b=>(obtain⟨i2,s2,l2⟩:=b;rw[hy]at h1 h2;cases hz:z.sh with|some c=>obtain⟨i3,s3,l3⟩:=c;rw[hz]at h2;exact key h1 h2|none=>rw[hz]at h2;exact h2)|none=>rw[hy]at h1 h2;have hd:y= .xH:=h1;subst hd;cases hz:z.sh with|some c=>rw[hz]at h2;exact(h2:False).elim|none=>rw[hz]at h2;cases z<;>first|rfl|exact(h2:False).elim)|none=>rw[hx]at h1;cases hy:y.sh with|some b=>rw[hy]at h1;exact(h1:False).elim|none=>rw[hy]at h1 h2;cases hz:z.sh with|some c=>rw[hz]at h2;exact(h2:False).elim|none=>rw[hz]at h2;cases x<;>cases y<;>first|exact(h1:False).elim|(cases z<;>first|exact(h2:False).elim|exact trivial|exact Eq.trans (h1:p=q) (h2:q=r))
theorem vj.refl(w:World)(H:qp)(ι:yv)(Im:Nat->Prop):vj w H ι Im w H ι Im where
 comp:=fun β b h=>⟨b,h,gb b _⟩
 im:=fun _ h=>h
 pX:=fun _ h=> .inl h
 nS:=fun β x z h hu=> .inr ⟨β,x,h,hu⟩
 kR:=fun _ _ _=>rfl
 size:=ju _
 io:=⟨rfl,rfl⟩
theorem vj.trans{w w1 w2:World}{H H1 H2:qp}{ι ι1 ι2:yv}{Im iX Gs:Nat->Prop}
  (h1:vj w H ι Im w1 H1 ι1 iX) (h2:vj w1 H1 ι1 iX w2 H2 ι2 Gs):vj w H ι Im w2 H2 ι2 Gs where
 comp:=fun β b h=>by obtain⟨b1,g1,c1⟩:=h1.comp β b h;obtain⟨b2,g2,c2⟩:=h2.comp β b1 g1;exact⟨b2,g2,ZE c1 c2⟩
 im:=fun b h=>h2.im b (h1.im b h)
 pX:=fun b h=>by rcases h2.pX b h with h|h|⟨β,x,hx,hu⟩;exact h1.pX b h;exact .inr (.inl (p! h1.size h));rcases h1.nS β x b hx hu with h|⟨β0,x0,g,L1⟩;exact .inr (.inl h);exact .inr (.inr ⟨β0,x0,g,L1⟩)
 nS:=fun β x z h hu=>by rcases h2.nS β x z h hu with h|⟨β0,x0,g,L1⟩;exact .inl (p! h1.size h);exact h1.nS β0 x0 z g L1
 kR:=fun b hb hn=>by
  have e1:=h1.kR b hb hn;have e2:=h2.kR b (N! hb h1.size) (fun β x hx hu=>by
   rcases h1.nS β x b hx hu with h|⟨β0,x0,g,L1⟩
   ·omega
   exact hn β0 x0 g L1)
  exact e2.trans e1
 size:=p! h1.size h2.size
 io:=⟨h2.io.1.trans h1.io.1,h2.io.2.trans h1.io.2⟩
theorem vj.ZS[xn]{w w1:World}{H H1:qp}{ι ι1:yv}{Im iX:Nat->Prop}(hi:zf w H ι Im)
  (h:vj w H ι Im w1 H1 ι1 iX) (b:Nat) (hb:Im b):w1.heap[b]? =w.heap[b]? :=
 h.kR b (hi.im b hb) fun β x hx hu=>hi.Vt β x b hx hu hb
theorem oa{w w1:World}{b:Nat}(h:w1.heap[b]? =w.heap[b]?)(o:Nat):w1.cell? ⟨b,o,none⟩=w.cell? ⟨b,o,none⟩:=by simp only[B',h]
theorem RP.mono{w w' :World}{Im kh:Nat->Prop}(hi: ∀b,Im b->kh b)(hw: ∀b,Im b->w'.heap[b]? =w.heap[b]?)
  {p:PV} {v:Value} (h:RP w Im p v):RP w' kh p v:=by induction h with|bool b=>exact .bool b|int k n=>exact .int k n|str l=>exact .str l|agg c vs hl hf _ ih=>exact .agg c vs hl hf ih|aP sz=>exact .aP sz|sl sz es b off cap vs Qt JV ml hc hf _ sp Sz ih=>(refine .sl sz es b off cap vs (fun jZ=>hi b (Qt jZ)) JV ml (fun i xS=>?_) hf ih sp Sz;have jZ:es≠[]:=by intro e;subst e;simp at xS);exact(oa (hw b (Qt jZ)) _).trans (hc i xS)|yj=>exact .yj|fg=>exact .fg|n9=>exact .n9|eY=>exact .eY|fn f=>exact .fn f|rp c b off vs Qt hc hf _ ih=>exact .rp c b off vs (hi b Qt) (fun i xS=>(oa (hw b Qt) _).trans (hc i xS)) hf ih
theorem RA.mono[xn]{w w' :World}{H H' :qp}{ι ι' :yv}{Im kh:Nat->Prop}(hi:zf w H ι Im)(he:vj w H ι Im w' H' ι' kh)
  {x:AV} {v:Value} (h:RA w H ι Im x v):RA w' H' ι' kh x v:=by have hw: ∀b,Im b->w'.heap[b]? =w.heap[b]? :=fun b hb=>he.ZS hi b hb;induction h with|undef v=>exact .undef v|pv p v h=>exact .pv p v (h.mono he.im hw)|ptr β o b hb hk=>(obtain⟨b',g,hc⟩:=he.comp β _ hb;cases b<;>simp only[qJ.Li,wH]at hk<;>cases b' <;>first|exact(hc:False).elim|(have Gt:ι β=ι' β:=hc;rw[Gt];exact .ptr β o _ g rfl))|uS β xm i o b1 o1 b hb jJ h=>obtain⟨b',g,hc⟩:=he.comp β _ hb;refine .uS β xm i o b1 o1 b' g ?_ ?_;intro qw sz l e;obtain⟨oq,sz0,l0,e0⟩:=Q5 hc e;rw[Q4 e0 e]at hc;exact p! (jJ _ _ _ e0) hc.1;intro qw sz l e hv hn;obtain⟨oq,sz0,l0,e0⟩:=Q5 hc e;rw[Q4 e0 e]at hc;have hle:=jJ _ _ _ e0;have hl:l0=l:=o?;obtain⟨JY,hs⟩:=hc.2 hl;obtain⟨hs,hp⟩:=hs (by rw[JY];exact hn);obtain⟨g1,g2⟩:=h oq sz0 l0 e0 o? (by rw[JY];exact hn);exact⟨by rw[g1,hp.1],by rw[g2,hs]⟩|row β xm off n v b ho hb hk jJ h=>obtain⟨b',g,hc⟩:=he.comp β _ hb;refine .row β xm off n v b' ho g ?_ ?_ ?_;intro hd;by_cases h0:b= .xH;(subst h0;cases b' with|xH=>exact absurd rfl hd|_=>exact(hc:False).elim);obtain⟨_,_,_,e0⟩:=hk h0;rcases BG hc e0 with h|h;exact absurd h hd;exact h;intro qw sz l e;obtain⟨oq,sz0,l0,e0⟩:=Q5 hc e;rw[Q4 e0 e]at hc;exact p! (jJ _ _ _ e0) hc.1;intro qw sz l e hv;obtain⟨oq,sz0,l0,e0⟩:=Q5 hc e;rw[Q4 e0 e]at hc;have hle:=jJ _ _ _ e0;have hl:l0=l:=o?;obtain⟨JY,hs⟩:=hc.2 hl;obtain⟨h1,h2⟩:=h oq sz0 l0 e0 o?;refine⟨o?, ?_⟩;cases hn:qw;obtain⟨hs,hp⟩:=hs (by rw[JY];exact hn);rw[JY,hn]at h2;rw[<- hp.1,<- hp.2,<- hs];exact h2;rw[JY,hn]at h2;exact h2|tQ c o b off vs Qt hc hf h=>exact .tQ c o b off vs (he.im b Qt) (fun i xS=>(oa (hw b Qt) _).trans (hc i xS)) hf fun i p hp=>(h i p hp).mono he.im hw|iW a=>exact .iW a|map β es zN hb=>(obtain⟨b',g,hc⟩:=he.comp β _ hb;cases b' <;>first|exact(hc:False).elim|(have Gt:ι β=ι' β:=hc;rw[Gt];exact .map β _ _ g))|Q3 f a b va vb VX Su _ _ iha ihb=>exact .Q3 f a b va vb VX Su iha ihb|agg c vs hl hf _ ih=>exact .agg c vs hl hf ih|xW c vs hl _ ih=>exact .xW c vs hl ih
def Ka(P:Program):TypeDesc->Option TD
 | .struct fs=>some (.struct (fs.toList.map fun f=>(f.offset,P.cellsOf f.type,f.type)))
 | .array n e=>some (.array n e)
 | .slice e=>some (.slice e)
 | .map k e=>some (.map k e)
 | .bool=>some .bool
 | .int k=>some (.int k)
 | .string=>some .string
 | .pointer _=>some .ptr
 | .func _ _ _=>some .func
 | .interface _| .tuple _=>some .other
 |_=>none
def aS(P:Program):Nat->List Field->Bool
 |_,[]=>true
 |i,f::r=>f.name != "_" &&f.offset==i&&aS P (i+P.cellsOf f.type) r
def eqok(P:Program)(t:TypeId):Bool:=
 match P.underlying t with
 |some (.struct fs)=> !P.stoodInHeld t&& !P.eqGuardType P.depth t&&aS P 0 fs.toList
 |_=>false
def Z3:Value->Bool
 | .agg _=>true
 |_=>false
def TD.isAgg:TD->Bool
 | .struct _| .array _ _=>true
 |_=>false
def lz(P:Program)(t:TypeId):Bool:=
 match P.underlying t with
 |some (.struct fs)=>fs.toList.all fun f=>(P.info? f.type).isSome
 |_=>true
def C0(P:Program)(t:TypeId):Option TypeId:=match P.underlying t with|some (.pointer e)=>some e|_=>none
def tiOf(P:Program)(t:TypeId):Option TI:=
 match P.info? t,P.underlying t with
 |some i,some d=>match Ka P d,i.zero with
  |some td,some z=>match i4 z.cells.toList with
   |some l=>if l.length=i.size/\Z3 z=td.isAgg/\(l.all PV.wc)=true/\lz P t=true then some ⟨i.size,i.bytes,td,l,eqok P t,C0 P t⟩else none
   |none=>none
  |_,_=>none
 |_,_=>none
structure zT (P:Program) (t:TypeId) (ti:TI):Prop where
 info: ∃i z,P.info? t=some i/\i.size=ti.size/\i.bytes=ti.bytes/\i.zero=some z/\i4 z.cells.toList=some ti.zero/\Z3 z=ti.td.isAgg
 len:ti.zero.length=ti.size
 wc: ∀p∈ti.zero,p.wc=true
 und: ∃d,P.underlying t=some d/\Ka P d=some ti.td
 known:lz P t=true
 eqk:ti.eq=eqok P t
 pek:ti.pe=C0 P t
theorem tiOf_ok{P:Program}{t:TypeId}{ti:TI}(h:tiOf P t=some ti):zT P t ti:=by
 unfold tiOf at h;split at h<;>try cases h
 rename_i i d hi hd;split at h<;>try cases h
 rename_i td z jF hz;split at h<;>try cases h
 rename_i l hl;split at h<;>try cases h
 rename_i hc;obtain⟨h1,h2,h3,h4⟩:=hc;exact⟨⟨i,z,hi,rfl,rfl,hz,hl,h2⟩,h1,by simpa using h3,⟨d,hd,jF⟩,h4,rfl,rfl⟩
theorem qp.zm(H:qp)(β γ:Nat)(y:qJ):(H.put β y).get γ=if γ=β then some y else H.get γ:=by induction H with|nil=>simp only[qp.put,qp.get];by_cases h:β=γ<;>simp[h,eq_comm]|cons x r ih=>obtain⟨i,v⟩:=x;simp only[qp.put];by_cases h:i=β;subst h;simp only[if_true,qp.get];by_cases h2:i=γ;simp[h2];simp[h2,c_ h2];simp only[h,if_false,qp.get,ih];by_cases h2:i=γ;subst h2;simp[h];simp[h2]
def kl(ι:yv)(β:Nat)(p:Pl):yv:=fun γ=>if γ=β then p else ι γ
@[simp] theorem vi (ι:yv) (β:Nat) (p:Pl):kl ι β p β=p:=by simp[kl]
theorem pw(ι:yv){β γ:Nat}(p:Pl)(h:γ≠β):kl ι β p γ=ι γ:=by simp[kl,h]
theorem oV.mono{w w' :World}{Im kh:Nat->Prop}(hi: ∀b,Im b->kh b)(hw: ∀b,Im b->w'.heap[b]? =w.heap[b]?){ds:List Nat}{p:PV}{v:Value}{k:Sk}(h:oV w Im ds p v k):
  (∀ x∈k.blocks,w'.heap[x]? =w.heap[x]?)->oV w' kh ds p v k:=by induction h with|V4 p v hs h=>exact fun _=> .V4 p v hs (h.mono hi hw)|nil d ds=>exact fun _=> .nil d ds|sl d ds es b o cap ks vs elem fz hb hfz Ej hd hle ho df N6 val K1 _ ih=>intro hk;refine .sl d ds es b o cap ks vs elem fz (by rw[hk b (by simp[Sk.blocks])];exact hb) hfz Ej hd hle ho df N6 val K1 fun i p k a c=>ih i p k a c fun x hx=>hk x ?_;simp only[Sk.blocks,List.mem_cons,l!];exact .inr ⟨k,zc c,hx⟩
theorem rA.mono[xn]{w w' :World}{H H' :qp}{ι ι' :yv}{Im kh:Nat->Prop}(hi:zf w H ι Im)(he:vj w H ι Im w' H' ι' kh)
  {β:Nat} {b:qJ} (hp:b.used=true->ι' β=ι β/\ ∀x,b.yi (ι β) x->w'.heap[x]? =w.heap[x]?) (h:rA w H ι Im β b):rA w' H' ι' kh β b:=by have hw: ∀b,Im b->w'.heap[b]? =w.heap[b]? :=fun b hb=>he.ZS hi b hb;cases b with|box c=>obtain⟨e1,e2⟩:=hp rfl;have e2:=e2 _ ⟨rfl,.inl rfl⟩;obtain⟨vs,elem,fz,h1,h2,h3,h4,h5⟩:=h;exact⟨vs,elem,fz,by rw[e1,e2];exact h1,h2,h3,h4,fun i x v a b=>(h5 i x v a b).mono hi he⟩|row qw sz es=>(cases qw with|true=>exact h|false=>obtain⟨e1,e2⟩:=hp rfl;have e2:=e2 _ ⟨rfl,.inl rfl⟩;obtain⟨vs,elem,fz,h1,h2,h3,h4,h5,h6,h7,h8⟩:=h;refine⟨vs,elem,fz,by rw[e1,e2];exact h1,h2,by rw[e1];exact h3,h4,by rw[e1];exact h5,h6,h7,fun i e j p a b=>?_⟩;obtain⟨v,g1,g2⟩:=h8 i e j p a b;exact⟨v,g1,g2.mono he.im hw⟩)|map es zN=>obtain⟨e1,e2⟩:=hp rfl;have e2:=e2 _ ⟨rfl,.inl rfl⟩;obtain⟨xo,h1,h2,h3⟩:=h;refine⟨xo,by rw[e1,e2];exact h1,h2,fun i k x born e a b=>?_⟩;obtain⟨g1,g2,g3⟩:=h3 i k x born e a b;exact⟨g1.mono he.im hw,g2.mono he.im hw,g3⟩|mr sz es=>obtain⟨e1,e2⟩:=hp rfl;have e2:=e2 _ ⟨rfl,.inl rfl⟩;obtain⟨vs,elem,fz,h1,h2,h3,h4,h5,h6,h7,h8⟩:=h;refine⟨vs,elem,fz,by rw[e1,e2];exact h1,h2,by rw[e1];exact h3,h4,by rw[e1];exact h5,h6,h7,fun i e j x a b=>?_⟩;obtain⟨v,g1,g2⟩:=h8 i e j x a b;exact⟨v,g1,g2.mono hi he⟩|kj qw ds es l4=>(cases qw with|true=>exact h|false=>obtain⟨e1,e2⟩:=hp rfl;obtain⟨vs,elem,fz,h1,h2,h3,h4,h5,h6,h7,h8,h9⟩:=h;refine⟨vs,elem,fz,by rw[e1,e2 _ ⟨rfl,.inl rfl⟩];exact h1,h2,by rw[e1];exact h3,by rw[e1];exact h4,by rw[e1];exact h5,by rw[e1];exact h6,fun x hx=>N! (h7 x (by rw[<- e1];exact hx)) he.size,h8,fun i p k a b=>?_⟩;rw[e1]at b;obtain⟨v,g1,g2,g3⟩:=h9 i p k a b;exact⟨v,g1,fun hj=>(g2 hj).mono he.im hw fun x hx=>e2 x ⟨rfl,.inr ⟨rfl,l!.mpr ⟨k,zc b,hx⟩⟩⟩,fun γ xm hf=>⟨(g3 γ xm hf).1,(g3 γ xm hf).2.mono hi he⟩⟩)|xH=>trivial
theorem rA.lt{w:World}{H:qp}{ι:yv}{Im:Nat->Prop}{β:Nat}{b:qJ}(h:rA w H ι Im β b)(hu:b.used=true):(ι β).b<w.heap.size:=by
 have key: ∀o,w.heap[(ι β).b]? =some o->(ι β).b<w.heap.size:=fun o ho=>by rcases N' (ι β).b w.heap.size with xS|hge;exact xS;simp[g_ hge]at ho
 cases b with|box c=>obtain⟨vs,elem,fz,h1,_⟩:=h;exact key _ h1|row qw sz es=>(cases qw with|true=>cases hu|false=>obtain⟨vs,elem,fz,h1,_⟩:=h;exact key _ h1)|map es zN=>obtain⟨xo,h1,_⟩:=h;exact key _ h1|mr sz es=>obtain⟨vs,elem,fz,h1,_⟩:=h;exact key _ h1|kj qw ds es l4=>(cases qw with|true=>cases hu|false=>obtain⟨vs,elem,fz,h1,_⟩:=h;exact key _ h1)|xH=>cases hu
theorem rA.cn{w:World}{H:qp}{ι:yv}{Im:Nat->Prop}{β:Nat}{b:qJ}{x:Nat}(h:rA w H ι Im β b)(hu:b.yi (ι β) x):x<w.heap.size:=by rcases hu.2 with rfl|⟨ho,hx⟩;exact h.lt hu.1;cases b<;>simp only[qJ.SE,wH]at ho;rename_i qw ds es l4;cases qw with|true=>exact absurd hu.1 (by simp[qJ.used])|false=>obtain⟨vs,elem,fz,h1,h2,h3,h4,h5,h6,h7,h8⟩:=h;exact h7 x hx
theorem qJ.foot_of{b:qJ}{p:Pl}{x:Nat}(hb:b.SE=false)(h:b.yi p x):x=p.b:=by rcases h.2 with h|⟨h,_⟩;exact h;rw[hb]at h;cases h
theorem zf.TQ[xn]{w w' :World}{H:qp}{ι:yv}{Im:Nat->Prop}(hi:zf w H ι Im)(β:Nat)(y:qJ)(p:Pl)
  (hold: ∀x,H.get β=some x->jc x y (ι β) p) (ml:w.heap.size<=w'.heap.size/\w'.os=w.os/\w'.output=w.output)
  (Jp: ∀b,b<w.heap.size->(∀ x,H.get β=some x-> ¬x.yi (ι β) b)->w'.heap[b]? =w.heap[b]?)
  (dg: ∀z,y.yi p z->w.heap.size<=z\/ ∃x,H.get β=some x/\x.yi (ι β) z)
  (oW:vj w H ι Im w' (H.put β y) (kl ι β p) Im->rA w' (H.put β y) (kl ι β p) Im β y):
  zf w' (H.put β y) (kl ι β p) Im/\vj w H ι Im w' (H.put β y) (kl ι β p) Im:=by
 have he:vj w H ι Im w' (H.put β y) (kl ι β p) Im:=by refine⟨fun γ b hb=>?_,fun _ h=>h,fun _ h=> .inl h,fun γ x z hx hu=>?_,fun b hb hn=>?_,ml.1,ml.2⟩;by_cases hγ:γ=β;subst hγ;exact⟨y,by simp[qp.zm],by simpa using hold b hb⟩;exact⟨b,by simp[qp.zm,hγ,hb],by rw[pw ι p hγ];exact gb b _⟩;by_cases hγ:γ=β;subst hγ;simp only[qp.zm,if_true,wd]at hx;subst hx;rw[vi]at hu;rcases dg z hu with h|⟨x,g1,g2⟩;exact .inl h;exact .inr ⟨γ,x,g1,g2⟩;simp only[qp.zm,hγ,if_false]at hx;rw[pw ι p hγ]at hu;exact .inr ⟨γ,x,hx,hu⟩;exact Jp b hb fun x hx hu=>hn β x hx hu
 refine⟨⟨fun γ b hb=>?_,fun γ γ' b b' z hb jD hu hu' =>?_,fun b hb=>N! (hi.im b hb) ml.1,fun γ b z hb hu=>?_, ?_, ?_⟩,he⟩;by_cases hγ:γ=β;subst hγ;simp only[qp.zm,if_true,wd]at hb;subst hb;exact oW he;simp only[qp.zm,hγ,if_false]at hb;refine(hi.ru γ b hb).mono hi he (fun hu=>⟨pw ι p hγ,fun x hx=>?_⟩);exact Jp _ ((hi.ru γ b hb).cn hx) fun x0 hx0 Fk=>hγ (hi.inj γ β b x0 x hb hx0 hx Fk);(have fresh: ∀δ d,δ≠β->H.get δ=some d->d.yi (ι δ) z->y.yi p z->False:=by intro δ d hδ hd hud huy;rcases dg z huy with h|⟨x,g1,g2⟩;have:=(hi.ru δ d hd).cn hud;omega;exact hδ (hi.inj δ β d x z hd g1 hud g2));by_cases hγ:γ=β<;>by_cases hγ' :γ' =β;rw[hγ,hγ'];subst hγ;simp only[qp.zm,if_true,wd,hγ',if_false]at hb jD;subst hb;rw[vi]at hu;rw[pw ι p hγ']at hu';exact(fresh γ' b' hγ' jD hu' hu).elim;subst hγ';simp only[qp.zm,if_true,wd,hγ,if_false]at hb jD;subst jD;rw[vi]at hu';rw[pw ι p hγ]at hu;exact(fresh γ b hγ hb hu hu').elim;simp only[qp.zm,hγ,hγ',if_false]at hb jD;rw[pw ι p hγ]at hu;rw[pw ι p hγ']at hu';exact hi.inj γ γ' b b' z hb jD hu hu';by_cases hγ:γ=β;subst hγ;simp only[qp.zm,if_true,wd]at hb;subst hb;rw[vi]at hu;rcases dg z hu with h|⟨x,g1,g2⟩;intro hIm;have:=hi.im _ hIm;omega;exact hi.Vt γ x z g1 g2;simp only[qp.zm,hγ,if_false]at hb;rw[pw ι p hγ]at hu;exact hi.Vt γ b z hb hu;exact xn.go hi.N0 hi.VS fun b hb=>he.ZS hi b hb;exact hi.VS
theorem noO{H:qp}{β:Nat}{x0:qJ}(h:H.get β=some x0)(h0:x0.SE=false): ∀x,H.get β=some x->x.SE=false:=fun x hx=>by rw[h]at hx;cases hx;exact h0
theorem NG{H:qp}{β:Nat}(h:H.get β=none): ∀x,H.get β=some x->x.SE=false:=fun x hx=>by rw[h]at hx;cases hx
theorem zf.put[xn]{w w' :World}{H:qp}{ι:yv}{Im:Nat->Prop}(hi:zf w H ι Im)(β:Nat)(y:qJ)(p:Pl)
  (hold: ∀x,H.get β=some x->jc x y (ι β) p) (ml:w.heap.size<=w'.heap.size/\w'.os=w.os/\w'.output=w.output)
  (Jp: ∀b,b<w.heap.size->(∀ x,H.get β=some x->x.used=true->(ι β).b≠b)->w'.heap[b]? =w.heap[b]?)
  (dg:y.used=true->w.heap.size<=p.b\/ ∃x,H.get β=some x/\x.used=true/\(ι β).b=p.b)
  (oW:vj w H ι Im w' (H.put β y) (kl ι β p) Im->rA w' (H.put β y) (kl ι β p) Im β y)
  (JZ: ∀x,H.get β=some x->x.SE=false:=by first|(apply noO;assumption;rfl)|(apply NG;assumption)) (hy:y.SE=false:=by rfl):
  zf w' (H.put β y) (kl ι β p) Im/\vj w H ι Im w' (H.put β y) (kl ι β p) Im:=by refine zf.TQ hi β y p hold ml (fun b hb hn=>Jp b hb fun x hx hu e=>hn x hx ⟨hu,.inl e.symm⟩) (fun z hz=>?_) oW;rw[qJ.foot_of hy hz];rcases dg hz.1 with h|⟨x,g1,g2,g3⟩;exact .inl h;exact .inr ⟨x,g1,g2,.inl g3.symm⟩
section
variable [xn] {P:Program} {w:World} {H:qp} {ι:yv} {Im:Nat->Prop}
theorem C3{v:Value}{p:PV}(h:pvOf v=some p):RP w Im p v/\p.wc=true/\v.cells= #[v]:=by unfold pvOf at h;split at h<;>cases h;exact⟨.bool _,rfl,rfl⟩;exact⟨.int _ _,rfl,rfl⟩;exact⟨.str _,rfl,rfl⟩;exact⟨.yj,rfl,rfl⟩;exact⟨.aP _,rfl,rfl⟩;exact⟨.n9,rfl,rfl⟩;exact⟨.fg,rfl,rfl⟩;exact⟨.eY,rfl,rfl⟩;exact⟨.fn _,rfl,rfl⟩
theorem X7: ∀{vs:List Value}{l:List PV},i4 vs=some l->
  l.length=vs.length/\(∀ p∈l,p.wc=true)/\ ∀(i:Nat) p v,l[i]? =some p->vs[i]? =some v->RP w Im p v
 |[],l,h=>by simp only[i4,wd]at h;subst h;simp
 |v::r,l,h=>by simp only[i4]at h;split at h<;>cases h;rename_i p l' hp hl;obtain⟨h1,h2,h3⟩:=X7 hl;obtain⟨g1,g2,_⟩:=C3 (w:=w) (Im:=Im) hp;refine⟨by simp[h1],by simpa using⟨g2,h2⟩,fun i q u hq hu=>?_⟩;cases i with|zero=>simp at hq hu;subst hq hu;exact g1|succ i=>simp at hq hu;exact h3 i q u hq hu
theorem avOf_ok(v:Value):RA w H ι Im (avOf v) v:=by unfold avOf;split;split;rename_i cs _ l hl;obtain⟨h1,h2,h3⟩:=X7 (w:=w) (Im:=Im) hl;exact .pv _ _ (.agg l cs h1 h2 h3);exact .undef _;exact .xW [] [] rfl z?;split;rename_i p hp;exact .pv _ _ (C3 hp).1;exact .undef _
theorem QH{a:Act}{E:yu}(hE: ∀t,RA w H ι Im (E.get t) (a.tmps.getD t undef))(x:Operand):RA w H ι Im (ev E x) (a.eval x):=by cases x with|tmp t=>exact hE t|const v=>exact avOf_ok v|global g=>exact .undef _|func f=>exact .pv _ _ (.fn f)
theorem add_plain(b o n:Nat):(⟨b,o,none⟩:Addr).add n=⟨b,o+n,none⟩:=by unfold Addr.add;split;rename_i h;subst h;rfl;rfl
theorem gJ{b o:Nat}{vs:Array Value}{elem:TypeId}{fz:Nat×Nat}(h:w.heap[b]? =some (.cells vs elem fz)):
  w.cell? ⟨b,o,none⟩=vs[o]? :=by simp[B',h]
theorem qy{t:TypeId}{d:TypeDesc}(h:P.underlying t=some d):(underlying t).run P w= .ok d w:=by simp[underlying,h]
theorem bj{t:TypeId}{i:TypeInfo}(h:P.info? t=some i):(typeInfo t).run P w= .ok i w:=by simp[typeInfo,h]
theorem zT.size{t:TypeId}{ti:TI}(h:zT P t ti):(sizeOf t).run P w= .ok ti.size w:=by obtain⟨i,z,h1,h2,_⟩:=h.info;simp[sizeOf,bj h1,h2]
theorem zT.isAgg{t:TypeId}{ti:TI}(h:zT P t ti):(Go.isAgg t).run P w= .ok ti.isAgg w:=by obtain⟨d,h1,h2⟩:=h.und;unfold Go.isAgg;simp only[kf,qy h1,mb];unfold TI.isAgg;generalize ti.td=td at*;cases d<;>simp[Ka]at h2<;>subst h2<;>rfl
theorem run_loadCellsFrom(b o:Nat)(vs:Nat->Value): ∀(n i:Nat)(acc:Array Value),(∀ j,j<n->w.cell? ⟨b,o+(i+j),none⟩=some (vs (i+j)))->
  (loadCellsFrom ⟨b,o,none⟩ i n acc).run P w= .ok (acc++((F? n).map fun j=>vs (i+j)).toArray) w
 |0,i,acc,_=>by simp[loadCellsFrom]
 |n+1,i,acc,h=>by
  have h0:=h 0 o?;simp only[d!]at h0;have ih:=run_loadCellsFrom b o vs n (i+1) (acc.push (vs i)) (fun j hj=>by
   have:=h (j+1) o?
   rwa[show i+(j+1)=i+1+j from o?]at this)
  simp only[loadCellsFrom,add_plain,kf,run_load,h0,mb,ih];congr 1;apply I!;simp[List.range_succ_eq_map,Function.comp_def,Q!,Nat.add_comm 1]
theorem run_loadCells(b o n:Nat)(vs:Nat->Value)(h: ∀j,j<n->w.cell? ⟨b,o+j,none⟩=some (vs j)):
  (loadCells ⟨b,o,none⟩ n).run P w= .ok ((F? n).map vs).toArray w:=by unfold loadCells;rw[run_loadCellsFrom b o vs n 0 #[] (fun j hj=>by simpa using h j hj)];simp
theorem o7: ∀{c:List AV}{l:List PV},ll c=some l->c=l.map .pv
 |[],l,h=>by simp[ll]at h;subst h;rfl
 |x::r,l,h=>by (cases x<;>simp only[ll]at h<;>try cases h);split at h<;>cases h;rename_i l' hl;simp[o7 hl]
theorem lJ{c:List AV}{vs:List Value}(hl:c.length=vs.length)(hf: ∀x∈c,x.wc=true)
  (h: ∀(i:Nat) x v,c[i]? =some x->vs[i]? =some v->RA w H ι Im x v):RA w H ι Im (Ju c) (.agg ⟨vs⟩):=by unfold Ju;split;rename_i l hp;have:=o7 hp;subst this;refine .pv _ _ (.agg l vs (by simpa using hl) (fun p hp=>?_) fun i p v h1 h2=>?_);have:=hf (.pv p) (by simp[hp]);simpa[AV.wc]using this;have:=h i (.pv p) v (by simp[h1]) h2;cases this;assumption;exact .agg c vs hl hf h
theorem Te{t:TypeId}{ti:TI}(ht:zT P t ti)(b o:Nat)(c:List AV)(vs:Nat->Value)
  (hc: ∀i,i<c.length->w.cell? ⟨b,o+i,none⟩=some (vs i)) (hf: ∀x∈c,x.wc=true)
  (h: ∀(i:Nat) x,c[i]? =some x->RA w H ι Im x (vs i)) {r:AV} (hr:Eo ti c=some r):
  ∃u,(loadVar t ⟨b,o,none⟩).run P w= .ok u w/\RA w H ι Im r u:=by unfold Eo at hr;unfold loadVar;simp only[kf,ht.isAgg,mb];by_cases ha:ti.isAgg=true;simp only[ha,if_true]at hr |-;split at hr<;>cases hr;rename_i hlen;refine⟨.agg ⟨(F? ti.size).map vs⟩, ?_,lJ v? (fun x hx=>hf x (Y? hx)) ?_⟩;simp only[kf,ht.size,mb,run_loadCells b o ti.size vs (fun j hj=>hc j o?),W?];intro i x v h1 h2;simp only[K?,yZ]at h2;obtain⟨j,hj,rfl⟩:=h2;by_cases hi:i<ti.size;simp[hi]at hj;subst hj;rw[V? hi]at h1;exact h i x h1;simp[hi]at hj;simp only[ha,wH,if_false]at hr |-;cases c with|nil=>cases hr|cons x r' =>simp only[wd]at hr;have h0:=hc 0 z?;simp only[d!]at h0;refine⟨vs 0,by simp[h0],hr ▸ h 0 x z?⟩
theorem Tf{t:TypeId}{ti:TI}(ht:zT P t ti)(b o:Nat)(c:List PV)(vs:Nat->Value)
  (hc: ∀i,i<c.length->w.cell? ⟨b,o+i,none⟩=some (vs i)) (hf: ∀x∈c,x.wc=true)
  (h: ∀(i:Nat) x,c[i]? =some x->RP w Im x (vs i)) {r:AV} (hr:ldP ti c=some r):
  ∃u,(loadVar t ⟨b,o,none⟩).run P w= .ok u w/\RA w H ι Im r u:=by unfold ldP at hr;unfold loadVar;simp only[kf,ht.isAgg,mb];by_cases ha:ti.isAgg=true;simp only[ha,if_true]at hr |-;split at hr<;>cases hr;rename_i hlen;refine⟨.agg ⟨(F? ti.size).map vs⟩, ?_,.pv _ _ (.agg _ _ v? (fun x hx=>hf x (Y? hx)) ?_)⟩;simp only[kf,ht.size,mb,run_loadCells b o ti.size vs (fun j hj=>hc j o?),W?];intro i x v h1 h2;simp only[K?,yZ]at h2;obtain⟨j,hj,rfl⟩:=h2;by_cases hi:i<ti.size;simp[hi]at hj;subst hj;rw[V? hi]at h1;exact h i x h1;simp[hi]at hj;simp only[ha,wH,if_false]at hr |-;cases c with|nil=>cases hr|cons x r' =>simp only[wd]at hr;have h0:=hc 0 z?;simp only[d!]at h0;refine⟨vs 0,by simp[h0],hr ▸ .pv _ _ (h 0 x z?)⟩
end
section
variable [xn] {P:Program} {w:World} {H:qp} {ι:yv} {Im:Nat->Prop}
theorem zf.box{β:Nat}{c:List AV}(hi:zf w H ι Im)(hb:H.get β=some (.box c)):
  ∃vs elem fz,w.heap[(ι β).b]? =some (.cells vs elem fz)/\wQ fz vs.size/\c.length=vs.size/\
   (∀ x∈c,x.wc=true)/\ ∀(i:Nat) x v,c[i]? =some x->vs[i]? =some v->RA w H ι Im x v:=hi.ru β _ hb
theorem zf.row{β sz:Nat}{es:List (List PV)}(hi:zf w H ι Im)(hb:H.get β=some (.row false sz es)):
  ∃vs elem fz,w.heap[(ι β).b]? =some (.cells vs elem fz)/\wQ fz vs.size/\vs.size=(ι β).cap*sz/\0<sz/\
   es.length<=(ι β).cap/\(∀ e∈es,e.length=sz)/\(∀(i:Nat) e(j:Nat) p,es[i]? =some e->e[j]? =some p->p.wc=true)/\
   ∀(i:Nat) e(j:Nat) p,es[i]? =some e->e[j]? =some p-> ∃v,vs[i*sz+j]? =some v/\RP w Im p v:=hi.ru β _ hb
theorem zf.mr{β sz:Nat}{es:List (List AV)}(hi:zf w H ι Im)(hb:H.get β=some (.mr sz es)):
  ∃vs elem fz,w.heap[(ι β).b]? =some (.cells vs elem fz)/\wQ fz vs.size/\vs.size=(ι β).cap*sz/\0<sz/\
   es.length<=(ι β).cap/\(∀ e∈es,e.length=sz)/\(∀(i:Nat) e(j:Nat) x,es[i]? =some e->e[j]? =some x->x.wc=true)/\
   ∀(i:Nat) e(j:Nat) x,es[i]? =some e->e[j]? =some x-> ∃v,vs[i*sz+j]? =some v/\RA w H ι Im x v:=hi.ru β _ hb
theorem zf.kj{β:Nat}{ds:List Nat}{es:List PV}{l4:Option (Nat×Nat×Nat)}(hi:zf w H ι Im)(hb:H.get β=some (.kj false ds es l4)):
  ∃vs elem fz,w.heap[(ι β).b]? =some (.cells vs elem fz)/\wQ fz vs.size/\vs.size=(ι β).cap/\es.length<=(ι β).cap/\(ι β).ks.length=es.length/\
   ((ι β).b::(ι β).ks.flatMap Sk.blocks).Nodup/\(∀ x∈(ι β).ks.flatMap Sk.blocks,x<w.heap.size)/\(∀ j γ xm,l4=some (j,γ,xm)->j<es.length)/\
   ∀(i:Nat) p k,es[i]? =some p->(ι β).ks[i]? =some k-> ∃v,vs[i]? =some v/\
    ((∀ j γ xm,l4=some (j,γ,xm)->i≠j)->oV w Im ds p v k)/\(∀ γ xm,l4=some (i,γ,xm)->k= .leaf/\RA w H ι Im (.row γ xm 0 xm) v):=hi.ru β _ hb
theorem sM(t:TypeId)(a:Addr):(Instr.loadAt t (.pointer (some a))).run P w=(loadVar t a).run P w:=by unfold Instr.loadAt Instr.sureAddr;simp
theorem mem_of_getElem?{α:Type}{l:List α}{i:Nat}{x:α}(h:l[i]? =some x):x∈l:=zc h
theorem Bj{t:TypeId}{ti:TI}(ht:zT P t ti)(hi:zf w H ι Im){x:AV}{v:Value}(hx:RA w H ι Im x v)
  {r:AV} (hr:QB ti x H=some r): ∃u,(Instr.loadAt t v).run P w= .ok u w/\RA w H ι Im r u:=by
 unfold QB at hr;split at hr;{(rename_i β o;split at hr<;>try cases hr);rename_i c hb;cases hx;obtain⟨vs,elem,fz,h1,h2,h3,h4,h5⟩:=hi.box hb;rw[sM];refine Te ht _ o (c.drop o) (fun i=>(vs[o+i]?).getD undef) (fun i xS=>?_) (fun x hx=>h4 x (q! hx)) (fun i x hx=>?_) hr;(rw[gJ h1];have:o+i<vs.size:=by simp at xS;omega);simp[this];(rw[h!]at hx;have xS:o+i<vs.size:=by have:=(qL hx).1;omega);exact h5 (o+i) x _ hx (by simp[xS])};{(rename_i β xm i o;split at hr<;>try cases hr);{(rename_i sz es hb;split at hr<;>try cases hr);(rename_i jJ;split at hr<;>try cases hr);(rename_i e he;have hvv:v= .pointer (some ⟨(ι β).b,i*sz+o,none⟩):=by cases hx with|uS _ _ _ _ b1 o1 b jD hv h=>rw[hb]at jD;cases jD;obtain⟨rfl,rfl⟩:=h _ _ _ rfl jJ rfl;rfl);subst hvv;obtain⟨vs,elem,fz,h1,h2,h3,h4,h5,h6,h7,h8⟩:=hi.row hb;rw[sM];refine Tf ht _ (i*sz+o) (e.drop o) (fun j=>(vs[i*sz+o+j]?).getD undef) (fun j xS=>?_) (fun x hx=>?_) (fun j p hp=>?_) hr;(rw[gJ h1];obtain⟨p,hp⟩: ∃p,e[o+j]? =some p:=by simp at xS;exact⟨e[o+j]'(o?),z?⟩);obtain⟨v,g1,_⟩:=h8 i e (o+j) p he hp;rw[Q!,g1];rfl;obtain⟨j,hj⟩:=jI (q! hx);exact h7 i e j x he hj;rw[h!]at hp;obtain⟨v,g1,g2⟩:=h8 i e (o+j) p he hp;simp only[Q!,g1,e!];exact g2};{(rename_i sz es hb;split at hr<;>try cases hr);(rename_i jJ;split at hr<;>try cases hr);(rename_i e he;have hvv:v= .pointer (some ⟨(ι β).b,i*sz+o,none⟩):=by cases hx with|uS _ _ _ _ b1 o1 b jD hv h=>rw[hb]at jD;cases jD;obtain⟨rfl,rfl⟩:=h _ _ _ rfl jJ rfl;rfl);subst hvv;obtain⟨vs,elem,fz,h1,h2,h3,h4,h5,h6,h7,h8⟩:=hi.mr hb;rw[sM];refine Te ht _ (i*sz+o) (e.drop o) (fun j=>(vs[i*sz+o+j]?).getD undef) (fun j xS=>?_) (fun x hx=>?_) (fun j p hp=>?_) hr;(rw[gJ h1];obtain⟨p,hp⟩: ∃p,e[o+j]? =some p:=by simp at xS;exact⟨e[o+j]'(o?),z?⟩);obtain⟨v,g1,_⟩:=h8 i e (o+j) p he hp;rw[Q!,g1];rfl;obtain⟨j,hj⟩:=jI (q! hx);exact h7 i e j x he hj;rw[h!]at hp;obtain⟨v,g1,g2⟩:=h8 i e (o+j) p he hp;simp only[Q!,g1,e!];exact g2};(rename_i ds es j γ fv hb;split at hr<;>try cases hr);(rename_i hc;obtain⟨jJ,rfl,rfl⟩:=hc;have hvv:v= .pointer (some ⟨(ι β).b,j*1+0,none⟩):=by cases hx with|uS _ _ _ _ b1 o1 b jD hv h=>rw[hb]at jD;cases jD;obtain⟨rfl,rfl⟩:=h _ _ _ rfl jJ rfl;rfl);subst hvv;obtain⟨vs,elem,fz,h1,h2,h3,h4,h5,h6,h7,h8,h9⟩:=hi.kj hb;have hj:=h8 _ _ _ rfl;obtain⟨v0,g1,_,g3⟩:=h9 j es[j] (ι β).ks[j] (by simp[hj]) z?;have g4:=(g3 _ _ rfl).2;rw[sM,show j*1+0=j by omega];refine Te ht _ j [.row γ fv 0 fv] (fun _=>v0) (fun k xS=>?_) (fun x hx=>by simp at hx;subst hx;rfl) (fun k p hp=>?_) hr;(rw[gJ h1];have:k=0:=by simpa using xS);subst this;exact g1;cases k with|zero=>simp at hp;subst hp;exact g4|succ k=>simp at hp};rename_i c o;cases hx;rename_i b off vs Qt hc hf h;rw[sM];refine Tf ht _ (off+o) (c.drop o) (fun j=>vs (o+j)) (fun j xS=>?_) (fun x hx=>hf x (q! hx)) (fun j p hp=>?_) hr;rw[Q!];exact hc (o+j) (by simp at xS;omega);rw[h!]at hp;exact h (o+j) p hp
 ·rename_i c;cases hx with
  |pv _ _ h=>cases h with
   |rp _ b off vs Qt hc hf h=>
    rw[sM];exact Tf ht _ off c vs hc hf h hr
 cases hr
theorem G7{b o:Nat}{vs:Array Value}{elem:TypeId}{fz:Nat×Nat}{x:Value}(h:w.heap[b]? =some (.cells vs elem fz)):
  (w.setCell ⟨b,o,none⟩ x).heap[b]? =some (.cells (vs.setIfInBounds o x) elem fz):=by obtain⟨xS,hv⟩:=Array.getElem?_eq_some_iff.1 h;simp[J',xS,hv,Array.getElem_modify]
theorem Ye{a:Addr}{x:Value}{b' :Nat}(jZ:a.block≠b'):(w.setCell a x).heap[b']? =w.heap[b']? :=by simp[J',Array.getElem?_modify,jZ]
theorem G8{a:Addr}{x:Value}:(w.setCell a x).heap.size=w.heap.size:=by simp[J']
theorem RP.dz{p:PV}{v:Value}(hp:p.wc=true)(h:RP w Im p v):dz v=true:=by cases h<;>first|rfl|cases hp
theorem RA.dz{x:AV}{v:Value}(hp:x.wc=true)(h:RA w H ι Im x v):Go.Gm.dz v=true:=by cases h with|pv p v h=>exact h.dz hp|undef=>cases hp|agg=>cases hp|xW=>cases hp|row _ _ _ _ _ _ ho=>exact ho|_=>rfl
theorem Rq{b o:Nat}{vs:Array Value}{elem:TypeId}{fz:Nat×Nat}{x:Value}(h:w.heap[b]? =some (.cells vs elem fz))
  (ho:o<vs.size) (hf:wQ fz vs.size) (hx:dz x=true):(store ⟨b,o,none⟩ x).run P w= .ok () (w.setCell ⟨b,o,none⟩ x):=by
 have hc:w.cell? ⟨b,o,none⟩=some vs[o]:=by rw[gJ h];simp[ho]
 have hz:w.frozen? ⟨b,o,none⟩=false:=by have:=hf.2 o ho;simp only[World.frozen?,h];simp only[Bool.and_eq_false_iff,decide_eq_false_iff_not];omega
 cases x<;>simp_all [store,C_,dz]
theorem uP(b o:Nat)(elem:TypeId)(fz:Nat×Nat): ∀(xs:List Value)(i:Nat)(w:World)(vs:Array Value),w.heap[b]? =some (.cells vs elem fz)->
  wQ fz vs.size->o+i+xs.length<=vs.size->(∀ x∈xs,dz x=true)->
  ∃w',(storeCells ⟨b,o,none⟩ xs i).run P w= .ok () w' /\(w'.heap.size=w.heap.size/\w'.os=w.os/\w'.output=w.output)/\(∀ b',b' ≠b->w'.heap[b']? =w.heap[b']?)/\
   ∃ee,w'.heap[b]? =some (.cells ee elem fz)/\ee.size=vs.size/\ ∀k,ee[k]? =if o+i<=k/\k<o+i+xs.length then xs[k-(o+i)]? else vs[k]?
 |[],i,w,vs,h,_,_,_=>by refine⟨w,by simp[storeCells],⟨rfl,rfl,rfl⟩,fun _ _=>rfl,vs,h,rfl,fun k=>?_⟩;rw[if_neg z?]
 |x::r,i,w,vs,h,hf,hl,hx=>by
  simp only[b?]at hl;have h1:=Rq (P:=P) h (o:=o+i) (x:=x) o? hf (hx x z?);have h2:=G7 (o:=o+i) (x:=x) h;obtain⟨w',g1,g2,g3,ee,g4,g5,g6⟩:=uP b o elem fz r (i+1) (w.setCell ⟨b,o+i,none⟩ x) _ h2 (by simpa using hf)
   v? (fun y hy=>hx y (by simp[hy]))
  refine⟨w', ?_,⟨by rw[g2.1,G8],g2.2.1,g2.2.2⟩,fun b' jD=>by rw[g3 b' jD,Ye (by exact c_ jD)],ee,g4,by simpa using g5,fun k=>?_⟩;simp only[storeCells,add_plain,kf,h1,mb,g1];rw[g6 k];simp only[b?,T_];by_cases hk:o+(i+1)<=k/\k<o+(i+1)+r.length;rw[if_pos hk,if_pos o?];obtain⟨j,rfl⟩: ∃j,k=o+i+(j+1):=⟨k-(o+i+1),o?⟩;rw[show o+i+(j+1)-(o+(i+1))=j from o?,show o+i+(j+1)-(o+i)=j+1 from o?];rfl;rw[if_neg hk];by_cases Sr:o+i=k;subst Sr;rw[if_pos rfl,if_pos o?,if_pos o?];simp;rw[if_neg Sr,if_neg o?]
theorem AV.dZ{x:AV}{v:Value}(hx:RA w H ι Im x v)(hs:x.MA=true):
  x.cells.length=v.cells.size/\(∀ y∈x.cells,y.wc=true)/\(∀ u∈v.cells.toList,dz u=true)/\
  ∀(i:Nat) y u,x.cells[i]? =some y->v.cells.toList[i]? =some u->RA w H ι Im y u:=by
 have one:x.wc=true->x.cells=[x]->
   x.cells.length=v.cells.size/\(∀ y∈x.cells,y.wc=true)/\(∀ u∈v.cells.toList,dz u=true)/\
   ∀(i:Nat) y u,x.cells[i]? =some y->v.cells.toList[i]? =some u->RA w H ι Im y u:=by
  intro hf e1;have ho:=hx.dz hf;have e2:v.cells= #[v]:=by cases v<;>first|rfl|cases ho
  rw[e1,e2];refine⟨rfl,by simpa using hf,by simpa using ho,fun i y u hy hu=>?_⟩;cases i with
  |zero=>simp at hy hu;subst hy hu;exact hx
  |succ i=>simp at hy
 have many: ∀(c:List AV)(vs:List Value),c.length=vs.length->(∀ x∈c,x.wc=true)->
   (∀(i:Nat) x v,c[i]? =some x->vs[i]? =some v->RA w H ι Im x v)-> ∀u∈vs,dz u=true:=by
  intro c vs hl hf h u hu;obtain⟨i,hi⟩:=jI hu;have:i<c.length:=by
   have:=(qL hi).1;omega
  exact(h i c[i] u z? hi).dz (hf _ z?)
 cases hx with|undef=>cases hs|xW=>cases hs|pv p v h=>(by_cases hp:p.wc=true;exact one hp (by cases p<;>first|rfl|cases hp);cases h with|agg c vs hl hf h=>(have h' : ∀(i:Nat) x v,(c.map AV.pv)[i]? =some x->vs[i]? =some v->RA w H ι Im x v:=fun i y u hy hu=>by simp only[K?,yZ]at hy;obtain⟨p,hp,rfl⟩:=hy;exact .pv _ _ (h i p u hp hu));(have Hf: ∀y∈c.map AV.pv,y.wc=true:=fun y hy=>by simp only[G?]at hy;obtain⟨p,hp,rfl⟩:=hy;exact hf p hp);exact⟨by simpa[AV.cells,Value.cells]using hl,Hf,many _ vs (by simpa using hl) Hf h',h'⟩|_=>exact absurd rfl hp)|agg c vs hl hf h=>exact⟨by simpa[AV.cells,Value.cells]using hl,hf,many c vs hl hf h,h⟩|_=>exact one rfl rfl
theorem kX{α:Type}(c xs:List α)(o k:Nat)(ho:o+xs.length<=c.length):
  (c.take o++xs++c.drop (o+xs.length))[k]? =if o<=k/\k<o+xs.length then xs[k-o]? else c[k]? :=by have hl:(c.take o).length=o:=v?;by_cases h1:k<o;rw[if_neg o?,List.append_assoc,t? o?,V? h1];by_cases h2:k<o+xs.length;rw[if_pos o?,t? v?,J? o?,hl];rw[if_neg o?,J? v?,h!];congr 1;simp only[List.length_append,hl];omega
theorem lR{t:TypeId}{ti:TI}(ht:zT P t ti)(a:Addr)(v:Value)(hs:v.cells.size=ti.size):
  (Instr.storeAt t (.pointer (some a)) v).run P w=(storeCells a v.cells.toList).run P w:=by unfold Instr.storeAt Instr.sureAddr storeVar;simp[ht.size,hs]
theorem UA{t:TypeId}{ti:TI}(ht:zT P t ti)(hi:zf w H ι Im){y:AV}{va vv:Value}{β xm i o:Nat}(hx:RA w H ι Im (.uS β xm i o) va)
  (c1:y.cells.length=vv.cells.size) (c2: ∀x∈y.cells,x.wc=true) (c3: ∀u∈vv.cells.toList,dz u=true)
  (c4: ∀(i:Nat) x u,y.cells[i]? =some x->vv.cells.toList[i]? =some u->RA w H ι Im x u) (hlen:y.cells.length=ti.size)
  {sz:Nat} {es:List (List AV)} (hb:H.get β=some (.mr sz es)) {ws:List (Nat×qJ)} (hr:Zh sz β xm i o ti.size y.cells es=some ws):
  ∃w' ι',(Instr.storeAt t va vv).run P w= .ok () w' /\zf w' (za ws H) ι' Im/\vj w H ι Im w' (za ws H) ι' Im/\
   ∃β b b',ws=[(β,b')]/\H.get β=some b:=by unfold Zh at hr;cases hr
theorem tG{ks:List Sk}{i x:Nat}(h:x∈(ks.set i .leaf).flatMap Sk.blocks):x∈ks.flatMap Sk.blocks:=by rw[l!]at h |-;obtain⟨k,hk,hx⟩:=h;rcases List.mem_or_eq_of_mem_set hk with h|h;exact⟨k,h,hx⟩;subst h;simp[Sk.blocks]at hx
theorem XU: ∀{ks:List Sk}{i:Nat},(ks.flatMap Sk.blocks).Nodup->((ks.set i .leaf).flatMap Sk.blocks).Nodup
 |[],i,h=>z?
 |k::r,0,h=>by simp only[List.set_cons_zero,T?,Sk.blocks,List.nil_append];rw[T?,D?]at h;exact h.2.1
 |k::r,i+1,h=>by rw[List.set_cons_succ,T?,D?];rw[T?,D?]at h;exact⟨h.1,XU h.2.1,fun a ha b hb=>h.2.2 a ha b (tG hb)⟩
theorem AP{t:TypeId}{ti:TI}(ht:zT P t ti)(hi:zf w H ι Im){y:AV}{va vv:Value}{β xm i o:Nat}(hx:RA w H ι Im (.uS β xm i o) va)(hy:RA w H ι Im y vv)
  {ds:List Nat} {es:List PV} {l4:Option (Nat×Nat×Nat)} (hb:H.get β=some (.kj false ds es l4)) {ws:List (Nat×qJ)} (hr:J2 β xm i o ti.size y ds es l4=some ws):
  ∃w' ι',(Instr.storeAt t va vv).run P w= .ok () w' /\zf w' (za ws H) ι' Im/\vj w H ι Im w' (za ws H) ι' Im/\
   ∃β b b',ws=[(β,b')]/\H.get β=some b:=by
 unfold J2 at hr;split at hr;rotate_left;cases hr;rename_i γ fv n;split at hr;rotate_left;cases hr;rename_i hc;obtain⟨jJ,eo,rfl,ml,rfl,OG⟩:=hc;simp only[wd]at hr;subst hr;have hvv:va= .pointer (some ⟨(ι β).b,i*1+0,none⟩):=by cases hx with|uS _ _ _ _ b1 o1 b jD hv h=>rw[hb]at jD;cases jD;obtain⟨rfl,rfl⟩:=h _ _ _ rfl jJ rfl;rfl
 subst hvv;rw[show i*1+0=i by omega];have Wl:dz vv=true:=by cases hy with|row _ _ _ _ _ _ ho=>exact ho
 have Xi:vv.cells= #[vv]:=by cases vv<;>first|rfl|cases Wl
 obtain⟨vs,elem,fz,h1,h2,h3,h4,h5,h6,h7,h8,h9⟩:=hi.kj hb;obtain⟨w',g1,g2,g3,ee,g4,g5,g6⟩:=uP (P:=P) (ι β).b i elem fz vv.cells.toList 0 w vs h1 h2 (by simp[Xi];omega) (by simpa[Xi]using Wl);rw[lR ht _ _ (by rw[Xi,ml];rfl)];have hw: ∀b,Im b->w'.heap[b]? =w.heap[b]? :=fun b jD=>g3 b (fun e=>hi.Vt β _ b hb ⟨rfl,.inl e⟩ jD);obtain⟨Ee,Sw⟩:=i!.1 h6;refine⟨w',kl ι β ⟨(ι β).b,(ι β).cap,(ι β).ks.set i .leaf⟩,g1, ?_⟩;have key:=zf.TQ hi (w' :=w') β (.kj false ds es (some (i,γ,n))) ⟨(ι β).b,(ι β).cap,(ι β).ks.set i .leaf⟩
  (fun x hx=>by rw[hb]at hx;cases hx;simp[jc,qJ.sh,Pl.kR])
  ⟨o?,g2.2⟩ (fun b' _ jZ=>g3 b' (fun e=>jZ _ hb ⟨rfl,.inl e⟩)) (fun z hz=> .inr ⟨_,hb,rfl,hz.2.imp id fun h=>⟨rfl,tG h.2⟩⟩) (fun mE=>by
   refine⟨ee,elem,fz,by simpa using g4,by rw[g5];exact h2,by rw[g5,h3];simp,by simpa using h4,by simpa using h5, ?_,fun x hx=>?_,fun j γ' ver' hf=>?_,fun i' p k hp hk=>?_⟩
   ·simp only[vi]
    exact i!.2 ⟨fun h=>Ee (tG h),XU Sw⟩
   ·simp only[vi]at hx
    rw[g2.1]
    exact h7 x (tG hx)
   ·cases hf
    exact eo
   simp only[vi]at hk
   have hg6:=g6 i'
   simp only[Xi,d!,l_,List.size_toArray,b?,List.length_nil,O?]at hg6
   by_cases MR:i=i'
   ·subst MR
    rw[if_pos o?]at hg6
    simp only[Nat.sub_self,a?]at hg6
    refine⟨vv,hg6,fun h=>absurd rfl (h _ _ _ rfl),fun γ' ver' hf=>?_⟩
    cases hf
    rw[List.getElem?_set_self o?]at hk
    cases hk
    exact⟨rfl,hy.mono hi mE⟩
   rw[if_neg o?]at hg6
   rw[List.getElem?_set_ne MR]at hk
   obtain⟨v0,k1,k2,k3⟩:=h9 i' p k hp hk
   refine⟨v0,by rw[hg6];exact k1,fun _=>?_,fun γ' ver' hf=>by cases hf;exact absurd rfl MR⟩
   refine(k2 fun j γ' ver' hf e=>?_).mono mE.im hw fun x hx=>g3 x fun e=>?_
   ·subst e
    rw[hf]at OG
    simp only[H6,decide_eq_true_eq]at OG
    exact MR OG.symm
   subst e
   exact Ee (l!.2 ⟨k,zc hk,hx⟩))
 exact⟨key.1,key.2,β,_,_,rfl,hb⟩
theorem Dm{t:TypeId}{ti:TI}(ht:zT P t ti)(hi:zf w H ι Im){x y:AV}{va vv:Value}(hx:RA w H ι Im x va)(hy:RA w H ι Im y vv)
  {ws:List (Nat×qJ)} (hr:o6 ti x y H=some ws):
  ∃w' ι',(Instr.storeAt t va vv).run P w= .ok () w' /\zf w' (za ws H) ι' Im/\vj w H ι Im w' (za ws H) ι' Im/\
   ∃β b b',ws=[(β,b')]/\H.get β=some b:=by
 unfold o6 at hr;split at hr;rotate_left;cases hr;rename_i hc;obtain⟨Wo,hlen⟩:=hc;obtain⟨c1,c2,c3,c4⟩:=AV.dZ hy Wo;have ml:vv.cells.size=ti.size:=o?;split at hr
 ·rename_i β o;split at hr
  ·rename_i c hb;split at hr;rotate_left;cases hr
   rename_i ho;simp only[wd]at hr;subst hr;cases hx;obtain⟨vs,elem,fz,h1,h2,h3,h4,h5⟩:=hi.box hb;obtain⟨w',g1,g2,g3,ee,g4,g5,g6⟩:=uP (P:=P) (ι β).b o elem fz vv.cells.toList 0 w vs h1 h2 v? c3;rw[lR ht _ _ ml];refine⟨w',kl ι β (ι β),g1, ?_⟩;rw[<- hlen]at ho |-;have key:=zf.put (JZ:=noO hb rfl) hi (w' :=w') β (.box (c.take o++y.cells++c.drop (o+y.cells.length))) (ι β) (fun x hx=>by rw[hb]at hx;cases hx;rfl)
    ⟨o?,g2.2⟩ (fun b' _ jZ=>g3 b' (fun e=>jZ _ hb rfl e.symm)) (fun _=> .inr ⟨_,hb,rfl,rfl⟩) (fun he=>by
     refine⟨ee,elem,fz,by simpa using g4,by rw[g5];exact h2,v?, ?_, ?_⟩
     ·intro x hx
      simp only[p?]at hx
      rcases hx with (hx|hx)|hx
      ·exact h4 x (Y? hx)
      ·exact c2 x hx
      exact h4 x (q! hx)
     intro i x v hx hv
     rw[kX c y.cells o i ho]at hx
     rw[g6 i]at hv
     simp only[d!,l_,<- c1]at hv
     refine RA.mono hi he ?_
     split at hx
     ·rename_i hc
      rw[if_pos hc]at hv
      exact c4 _ x v hx hv
     rename_i hc
     rw[if_neg hc]at hv
     exact h5 i x v hx hv)
   exact⟨key.1,key.2,β,_,_,rfl,hb⟩
  cases hr
 ·rename_i β xm i o;split at hr
  ·rename_i ps Fi;split at hr
   ·rename_i sz es hb;split at hr;rotate_left;cases hr;rename_i jJ;split at hr;rotate_left;cases hr;rename_i e he;split at hr;rotate_left;cases hr;(rename_i ho;simp only[wd]at hr;subst hr;have hvv:va= .pointer (some ⟨(ι β).b,i*sz+o,none⟩):=by cases hx with|uS _ _ _ _ b1 o1 b jD hv h=>rw[hb]at jD;cases jD;obtain⟨rfl,rfl⟩:=h _ _ _ rfl jJ rfl;rfl);(subst hvv;obtain⟨vs,elem,fz,h1,h2,h3,h4,h5,h6,h7,h8⟩:=hi.row hb;have hps' :=o7 Fi;have dg:ps.length=ti.size:=by rw[<- hlen,hps'];simp);have eo:i<es.length:=(qL he).1;have MO:e.length=sz:=h6 e (zc he);have dm:i*sz+sz<=vs.size:=by rw[h3,<- B?];exact mulR _ o?
    obtain⟨w',g1,g2,g3,ee,g4,g5,g6⟩:=uP (P:=P) (ι β).b (i*sz+o) elem fz vv.cells.toList 0 w vs h1 h2 v? c3;rw[lR ht _ _ ml];refine⟨w',kl ι β (ι β),g1, ?_⟩;rw[<- dg]at ho |-;have pf: ∀(i' :Nat) e',(es.set i (e.take o++ps++e.drop (o+ps.length)))[i']? =some e' ->
      (i' =i/\e' =e.take o++ps++e.drop (o+ps.length))\/(i' ≠i/\es[i']? =some e'):=by
     intro i' e' h;rw[T!]at h;by_cases MR:i=i'
     ·subst MR;simp[eo]at h;exact .inl ⟨rfl,by rw[<- h];simp⟩
     simp[MR]at h;exact .inr ⟨c_ MR,h⟩
    have hpf: ∀(j:Nat) p,ps[j]? =some p->p.wc=true/\ ∀u,vv.cells.toList[j]? =some u->RP w Im p u:=by (intro j p hp;have hy:y.cells[j]? =some (.pv p):=by rw[hps'];simp[hp]);refine⟨c2 _ (zc hy),fun u hu=>?_⟩;have:=c4 j _ u hy hu;cases this;assumption
    have key:=zf.put (JZ:=noO hb rfl) hi (w' :=w') β (.row false sz (es.set i (e.take o++ps++e.drop (o+ps.length)))) (ι β)
     (fun x hx=>by rw[hb]at hx;cases hx;simp[jc,qJ.sh,Pl.kR])
     ⟨o?,g2.2⟩ (fun b' _ jZ=>g3 b' (fun e=>jZ _ hb rfl e.symm)) (fun _=> .inr ⟨_,hb,rfl,rfl⟩) (fun mE=>by
      have hw: ∀b,Im b->w'.heap[b]? =w.heap[b]? :=fun b hb=>mE.ZS hi b hb
      refine⟨ee,elem,fz,by simpa using g4,by rw[g5];exact h2,by rw[g5,h3];simp,h4,by simpa using h5, ?_, ?_, ?_⟩
      ·intro e' VU
       obtain⟨i',uj⟩:=jI VU
       rcases pf i' e' uj with ⟨_,rfl⟩|⟨_,h⟩
       ·simp;omega
       exact h6 e' (zc h)
      ·intro i' e' j p uj hj
       rcases pf i' e' uj with ⟨_,rfl⟩|⟨_,h⟩
       ·rw[kX e ps o j ho]at hj
        split at hj
        ·exact(hpf _ p hj).1
        exact h7 i e j p he hj
       exact h7 i' e' j p h hj
      intro i' e' j p uj hj
      have N5:j<sz:=by
       rcases pf i' e' uj with ⟨_,rfl⟩|⟨_,h⟩
       ·have:=(qL hj).1
        simp at this
        omega
       have:=(qL hj).1
       have:=h6 e' (zc h)
       omega
      rw[g6]
      simp only[d!,l_]
      have Na:vv.cells.size=ps.length:=o?
      rw[Na]
      rcases pf i' e' uj with ⟨rfl,rfl⟩|⟨jZ,h⟩
      ·rw[kX e ps o j ho]at hj
       split at hj
       ·rename_i hc
        rw[if_pos o?,show i' *sz+j-(i' *sz+o)=j-o from o?]
        obtain⟨u,hu⟩: ∃u,vv.cells.toList[j-o]? =some u:=⟨vv.cells.toList[j-o]'(v?),z?⟩
        exact⟨u,hu,((hpf _ p hj).2 u hu).mono mE.im hw⟩
       rename_i hc
       rw[if_neg o?]
       obtain⟨u,hu,hr⟩:=h8 i' e j p he hj
       exact⟨u,hu,hr.mono mE.im hw⟩
      obtain⟨u,hu,hr⟩:=h8 i' e' j p h hj
      have XI: ¬(i*sz+o<=i' *sz+j/\i' *sz+j<i*sz+o+ps.length):=by
       rcases B_ jZ with xS|MP
       ·have:(i' +1)*sz<=i*sz:=mulR _ xS
        rw[B?]at this
        omega
       have:(i+1)*sz<=i' *sz:=mulR _ MP
       rw[B?]at this
       omega
      rw[if_neg XI]
      exact⟨u,hu,hr.mono mE.im hw⟩)
    exact⟨key.1,key.2,β,_,_,rfl,hb⟩
   rename_i sz es hb;exact UA ht hi hx c1 c2 c3 c4 hlen hb hr;cases hr
  split at hr;rename_i sz es hb;exact UA ht hi hx c1 c2 c3 c4 hlen hb hr;rename_i ds es l4 hb;exact AP ht hi hx hy hb hr;cases hr
 cases hr
end
section
variable [xn] {P:Program} {w:World} {H:qp} {ι:yv} {Im:Nat->Prop}
theorem zT.struct{t:TypeId}{ti:TI}(ht:zT P t ti){fs:List (Nat×Nat×TypeId)}(h:ti.td= .struct fs):
  ∃fields,P.underlying t=some (.struct fields)/\fs=fields.toList.map fun f=>(f.offset,P.cellsOf f.type,f.type):=by obtain⟨d,h1,h2⟩:=ht.und;rw[h]at h2;cases d<;>simp[Ka]at h2;exact⟨_,h1,h2.symm⟩
theorem zT.array{t:TypeId}{ti:TI}(ht:zT P t ti){n:Nat}{e:TypeId}(h:ti.td= .array n e):P.underlying t=some (.array n e):=by obtain⟨d,h1,h2⟩:=ht.und;rw[h]at h2;cases d<;>simp[Ka]at h2;obtain⟨rfl,rfl⟩:=h2;exact h1
theorem zT.slice{t:TypeId}{ti:TI}(ht:zT P t ti){e:TypeId}(h:ti.td= .slice e):P.underlying t=some (.slice e):=by obtain⟨d,h1,h2⟩:=ht.und;rw[h]at h2;cases d<;>simp[Ka]at h2;obtain rfl:=h2;exact h1
theorem zT.map{t:TypeId}{ti:TI}(ht:zT P t ti){k e:TypeId}(h:ti.td= .map k e):P.underlying t=some (.map k e):=by obtain⟨d,h1,h2⟩:=ht.und;rw[h]at h2;cases d<;>simp[Ka]at h2;obtain⟨rfl,rfl⟩:=h2;exact h1
theorem zT.int{t:TypeId}{ti:TI}(ht:zT P t ti){k:IntKind}(h:ti.td= .int k):P.underlying t=some (.int k):=by obtain⟨d,h1,h2⟩:=ht.und;rw[h]at h2;cases d<;>simp[Ka]at h2;obtain rfl:=h2;exact h1
theorem zT.string{t:TypeId}{ti:TI}(ht:zT P t ti)(h:ti.td= .string):P.underlying t=some .string:=by obtain⟨d,h1,h2⟩:=ht.und;rw[h]at h2;cases d<;>simp[Ka]at h2;exact h1
theorem zT.bool{t:TypeId}{ti:TI}(ht:zT P t ti)(h:ti.td= .bool):P.underlying t=some .bool:=by obtain⟨d,h1,h2⟩:=ht.und;rw[h]at h2;cases d<;>simp[Ka]at h2;exact h1
theorem UQ{t:TypeId}(h:0<P.cellsOf t):(sizeOf t).run P w= .ok (P.cellsOf t) w:=by unfold Program.cellsOf at h |-;cases hi:P.info? t with|none=>simp[hi]at h|some i=>simp[sizeOf,bj hi]
theorem zT.cellsOf{t:TypeId}{ti:TI}(ht:zT P t ti):P.cellsOf t=ti.size:=by obtain⟨i,z,h1,h2,_⟩:=ht.info;simp[Program.cellsOf,h1,h2]
theorem sb(b o:Nat)(f:Field)(h:0<P.cellsOf f.type):(fieldPlace ⟨b,o,none⟩ f).run P w= .ok ⟨b,o+f.offset,none⟩ w:=by unfold fieldPlace;have: ¬P.cellsOf f.type=0:=o?;simp[UQ h,this,add_plain]
theorem VG{t:TypeId}{ti:TI}(ht:zT P t ti){x:AV}{v:Value}(hx:RA w H ι Im x v)
  {f:Nat} {r:AV} (hr:o5 ti.td x f=some r): ∃u,(Instr.fieldAt t v f).run P w= .ok u w/\RA w H ι Im r u:=by
 unfold o5 at hr;split at hr;rotate_left;cases hr;rename_i fs jF;obtain⟨fields,hu,rfl⟩:=ht.struct jF;split at hr;rotate_left;cases hr;rename_i o' s te hf;split at hr;rotate_left;cases hr;rename_i hs;simp only[K?,yZ]at hf;obtain⟨fd,hf,hfe⟩:=hf;simp only[Prod.mk.injEq]at hfe;obtain⟨rfl,rfl,rfl⟩:=hfe;have hfa:fields[f]? =some fd:=by rw[<- hf];simp
 unfold Instr.fieldAt Instr.sureAddr;split at hr;(rename_i β o;cases hr;cases hx with|ptr _ _ c hb hk=>refine⟨.pointer (some ⟨(ι β).b,o+fd.offset,none⟩), ?_,.ptr β _ c hb hk⟩;simp[qy hu,hfa,sb _ _ fd hs]);(rename_i β xm j o;cases hr;cases hx with|uS _ _ _ _ b' o' b hb jJ h=>refine⟨.pointer (some ⟨b',o' +fd.offset,none⟩), ?_,.uS β xm j _ b' _ b hb jJ fun qw sz es e hv hn=>?_⟩;simp[qy hu,hfa,sb _ _ fd hs];obtain⟨g1,g2⟩:=h qw sz es e hv hn;exact⟨g1,o?⟩);(rename_i c o;cases hr;cases hx with|tQ _ _ b off vs Qt hc hf h=>refine⟨.pointer (some ⟨b,off+o+fd.offset,none⟩), ?_, ?_⟩;simp[qy hu,hfa,sb _ _ fd hs];rw[Q!];exact .tQ c _ b off vs Qt hc hf h)
 ·rename_i c;cases hr;cases hx with
  |pv _ _ h=>cases h with
   |rp _ b off vs Qt hc hf h=>
    refine⟨.pointer (some ⟨b,off+fd.offset,none⟩), ?_,.tQ c _ b off vs Qt hc hf h⟩;simp[qy hu,hfa,sb _ _ fd hs]
 cases hr
theorem ZY{x:AV}{v:Value}(hx:RA w H ι Im x v){k:Nat}(h:vW x=some k): ∃kd,v= .int kd (k:Int):=by unfold vW at h;split at h;(split at h<;>cases h;rename_i kd n hn;cases hx with|pv _ _ h=>cases h;exact⟨kd,by rw[q0b hn]⟩);cases h
theorem VH{G:TypeId->Option TI}(hG: ∀t ti,G t=some ti->zT P t ti){t:TypeId}{ti:TI}(ht:zT P t ti)(hi:zf w H ι Im)
  {x y:AV} {v u:Value} (hx:RA w H ι Im x v) (hy:RA w H ι Im y u) {r:AV} (hr:tC ti.td G x y H=some r):
  ∃z,(Instr.indexAt t v u).run P w= .ok z w/\RA w H ι Im r z:=by
 unfold tC at hr;split at hr;cases hr;rename_i k hk;obtain⟨kd,rfl⟩:=ZY hy hk;split at hr
 ·rename_i e jF;have hu:=ht.slice jF;split at hr;cases hr;rename_i te dy;have sJ:=hG _ _ dy;split at hr
  ·rename_i qw sz es;split at hr;rotate_left;cases hr
   rename_i ml;split at hr<;>cases hr;rename_i c hc;have pd:k<es.length:=(qL hc).1;cases hx with
   |pv _ _ h=>cases h with
    |aP sz=>simp at pd
    |sl _ _ b off cap vs Qt JV hs Wg hf h sp Sz=>
     obtain rfl:=Sz (by intro e;subst e;simp at pd);refine⟨.pointer (some ⟨b,off+k*sz,none⟩), ?_, ?_⟩
     ·unfold Instr.indexAt asIntOf;simp[qy hu,pd,sJ.size,add_plain,ml]
     have:=RA.tQ (w:=w) (H:=H) (ι:=ι) (Im:=Im) c 0 b (off+k*sz) (fun j=>vs (k*sz+j)) (Qt (by intro e;subst e;simp at pd)) (fun j hj=>?_) (fun p hp=>?_) (fun j p hp=>h k c j p hc hp)
     ·simpa using this
     ·have Sp:=hs c (zc hc);rw[Q!];refine Wg _ ?_;have:(k+1)*sz<=es.length*sz:=mulR _ pd;rw[B?]at this;omega
     obtain⟨j,hj⟩:=jI hp;exact hf k c j p hc hj
  rename_i β xm off n;split at hr;(rename_i sz es hb;split at hr<;>cases hr;rename_i hc;obtain⟨jJ,ml,hkn⟩:=hc;cases hx with|row _ _ _ _ _ b ho jD Zs hver' h=>rw[hb]at jD;cases jD;obtain⟨h1,h2⟩:=h _ _ _ rfl jJ;simp only[wH,if_false]at h2;obtain⟨a,rfl,oL,ay,Qa⟩:=h2;obtain⟨vs,elem,fz,g1,g2,g3,g4,g5,_⟩:=hi.row hb;have ha4:=Qa o?;obtain⟨ab,ao,Dq⟩:=a;simp only at oL ay ha4;subst oL ay ha4;refine⟨.pointer (some ⟨(ι β).b,off*sz+k*sz,none⟩), ?_,.uS β xm (off+k) 0 _ _ _ hb (fun _ _ _ e=>by cases e;omega) fun _ _ _ e _ _=>?_⟩;unfold Instr.indexAt asIntOf;simp[qy hu,hkn,sJ.size,add_plain,ml];cases e;exact⟨rfl,by rw[N?];rfl⟩);(rename_i sz es hb;split at hr<;>cases hr;rename_i hc;obtain⟨jJ,ml,hkn⟩:=hc;cases hx with|row _ _ _ _ _ b ho jD Zs hver' h=>rw[hb]at jD;cases jD;obtain⟨h1,h2⟩:=h _ _ _ rfl jJ;simp only[wH,if_false]at h2;obtain⟨a,rfl,oL,ay,Qa⟩:=h2;obtain⟨vs,elem,fz,g1,g2,g3,g4,g5,_⟩:=hi.mr hb;have ha4:=Qa o?;obtain⟨ab,ao,Dq⟩:=a;simp only at oL ay ha4;subst oL ay ha4;refine⟨.pointer (some ⟨(ι β).b,off*sz+k*sz,none⟩), ?_,.uS β xm (off+k) 0 _ _ _ hb (fun _ _ _ e=>by cases e;omega) fun _ _ _ e _ _=>?_⟩;unfold Instr.indexAt asIntOf;simp[qy hu,hkn,sJ.size,add_plain,ml];cases e;exact⟨rfl,by rw[N?];rfl⟩);(rename_i ds es l4 hb;split at hr<;>cases hr;rename_i hc;obtain⟨jJ,ml,hkn⟩:=hc;cases hx with|row _ _ _ _ _ b ho jD Zs hver' h=>rw[hb]at jD;cases jD;obtain⟨h1,h2⟩:=h _ _ _ rfl jJ;simp only[wH,if_false]at h2;obtain⟨a,rfl,oL,ay,Qa⟩:=h2;obtain⟨vs,elem,fz,g1,g2,g3,g4,_⟩:=hi.kj hb;have ha4:=Qa o?;obtain⟨ab,ao,Dq⟩:=a;simp only at oL ay ha4;subst oL ay ha4;refine⟨.pointer (some ⟨(ι β).b,off*1+k*1,none⟩), ?_,.uS β xm (off+k) 0 _ _ _ hb (fun _ _ _ e=>by cases e;omega) fun _ _ _ e _ _=>?_⟩;unfold Instr.indexAt asIntOf;simp[qy hu,hkn,sJ.size,add_plain,ml];cases e;exact⟨rfl,by rw[N?];rfl⟩);cases hr;cases hr
 {rename_i len e jF;have hu:=ht.array jF;split at hr;cases hr;rename_i te dy;have sJ:=hG _ _ dy;split at hr;rotate_left;cases hr;rename_i pd;split at hr;(rename_i β o;cases hr;cases hx with|ptr _ _ c hb hk=>refine⟨.pointer (some ⟨(ι β).b,o+k*te.size,none⟩), ?_,.ptr β _ c hb hk⟩;unfold Instr.indexAt asIntOf Instr.sureAddr;simp[qy hu,pd,sJ.size,add_plain]);(rename_i β xm j o;cases hr;cases hx with|uS _ _ _ _ b' o' b hb jJ h=>refine⟨.pointer (some ⟨b',o' +k*te.size,none⟩), ?_,.uS β xm j _ b' _ b hb jJ fun qw sz es e hv hn=>?_⟩;unfold Instr.indexAt asIntOf Instr.sureAddr;simp[qy hu,pd,sJ.size,add_plain];obtain⟨g1,g2⟩:=h qw sz es e hv hn;exact⟨g1,o?⟩);(rename_i c o;cases hr;cases hx with|tQ _ _ b off vs Qt hc hf h=>refine⟨.pointer (some ⟨b,off+o+k*te.size,none⟩), ?_, ?_⟩;unfold Instr.indexAt asIntOf Instr.sureAddr;simp[qy hu,pd,sJ.size,add_plain];rw[Q!];exact .tQ c _ b off vs Qt hc hf h);cases hr};cases hr
theorem Bn{t:TypeId}{ti:TI}(ht:zT P t ti){x:AV}{v:Value}(hx:RA w H ι Im x v){off:Nat}{r:AV}
  (hr:Bm ti x off=some r): ∃cs u,v= .agg cs/\(part t cs off).run P w= .ok u w/\RA w H ι Im r u:=by
 have key: ∀(c:List AV)(vs:List Value),c.length=vs.length->(∀ x∈c,x.wc=true)->
   (∀(i:Nat) x v,c[i]? =some x->vs[i]? =some v->RA w H ι Im x v)->Eo ti (c.drop off)=some r-> ∃u,(part t ⟨vs⟩ off).run P w= .ok u w/\RA w H ι Im r u:=by
  intro c vs hl hf h hr;unfold Eo at hr;unfold part;simp only[kf,ht.isAgg,mb];by_cases ha:ti.isAgg=true
  ·simp only[ha,if_true]at hr |-;split at hr<;>cases hr;rename_i hlen;refine⟨.agg ⟨(vs.drop off).take ti.size⟩,by simp[ht.size],lJ v? (fun x hx=>hf x (q! (Y? hx))) ?_⟩;intro i x v h1 h2;by_cases hi:i<ti.size
   ·rw[V? hi,h!]at h1 h2;exact h _ x v h1 h2
   have:=(qL h1).1;simp at this;omega
  simp only[ha,wH,if_false]at hr |-;split at hr<;>cases hr;rename_i x r' hd;have hx:c[off]? =some r:=by
   have:=congrArg (fun l=>l[0]?) hd;simpa using this
  have xS:off<vs.length:=by rw[<- hl];exact(qL hx).1
  refine⟨vs[off], ?_,h off r _ hx (by simp[xS])⟩;have:(⟨vs⟩:Array Value)[off]? =some vs[off]:=by simp[xS]
  simp[this]
 unfold Bm at hr;split at hr
 ·rename_i c;cases hx with
  |pv _ _ h=>cases h with
   |agg _ vs hl hf h=>
    have hr' :Eo ti ((c.map AV.pv).drop off)=some r:=by
     rw[<- List.map_drop];unfold ldP at hr;unfold Eo;by_cases ha:ti.isAgg=true
     ·simp only[ha,if_true,j_]at hr |-;split at hr<;>cases hr;rename_i hlen;rw[if_pos hlen,<- List.map_take];congr 1;unfold Ju;have: ∀l:List PV,ll (l.map AV.pv)=some l:=by
       intro l;induction l with
       |nil=>rfl
       |cons x r ih=>simp[ll,ih]
      rw[this]
     simp only[ha,wH,if_false]at hr |-;split at hr<;>cases hr;rename_i x r' hd;simp[hd]
    obtain⟨u,g1,g2⟩:=key (c.map .pv) vs (by simpa using hl) (fun y hy=>by
     simp only[G?]at hy
     obtain⟨p,hp,rfl⟩:=hy
     exact hf p hp) (fun i y u hy hu=>by
     simp only[K?,yZ]at hy
     obtain⟨p,hp,rfl⟩:=hy
     exact .pv _ _ (h i p u hp hu)) hr'
    exact⟨_,u,rfl,g1,g2⟩
 (rename_i c;cases hx with|agg _ vs hl hf h=>obtain⟨u,g1,g2⟩:=key c vs hl hf h hr;exact⟨_,u,rfl,g1,g2⟩);cases hr
end
section
variable [xn] {P:Program} {w:World} {H:qp} {ι:yv} {Im:Nat->Prop}
def Bd(X:Nat->Prop)(H:qp)(nx:Nat):Prop:= ∀β b,H.get β=some b->β<nx\/X β
def tA(X:Nat->Prop)(w:World)(H:qp)(ι:yv)(Im:Nat->Prop)(nx:Nat)(e:my)(u:Value)(w' :World):Prop:=
 ∃ι',zf w' (za e.2.1 H) ι' Im/\vj w H ι Im w' (za e.2.1 H) ι' Im/\RA w' (za e.2.1 H) ι' Im e.1 u/\nx<=e.2.2/\
  Bd X (za e.2.1 H) e.2.2
theorem tA.pure(hi:zf w H ι Im){nx:Nat}{X:Nat->Prop}(jf:Bd X H nx){r:AV}{u:Value}(h:RA w H ι Im r u):
  tA X w H ι Im nx (r,[],nx) u w:=⟨ι,hi,vj.refl _ _ _ _,h,ju _,jf⟩
theorem Wc{nx:Nat}{X:Nat->Prop}(jf:Bd X H nx)(hX: ¬X nx):H.get nx=none:=by cases h:H.get nx with|none=>rfl|some b=>rcases jf nx b h with h|h;omega;exact absurd h hX
theorem u7{nx:Nat}{X:Nat->Prop}(jf:Bd X H nx){γ:Nat}{y:qJ}{n:Nat}(hn:nx<=n)(hγ:γ<n\/X γ):Bd X (za [(γ,y)] H) n:=by intro β b h;simp only[za,qp.zm]at h;split at h;rename_i e;subst e;exact hγ;rcases jf β b h with h|h;exact .inl o?;exact .inr h
theorem aQ{X:Nat->Prop}{nx:Nat}(h: ∀γ,X γ->nx+1<=γ): ¬X nx:=fun hx=>by have:=h _ hx;omega
theorem zf.new(hi:zf w H ι Im){nx:Nat}{X:Nat->Prop}(jf:Bd X H nx)(hX: ¬X nx)(w' :World)(y:qJ)(o:Obj)(cap:Nat)
  (hw:w'.heap=w.heap.push o) (OL:w'.os=w.os/\w'.output=w.output)
  (oW: ∀ι',ι' nx=⟨w.heap.size,cap,[]⟩->vj w H ι Im w' (H.put nx y) ι' Im->rA w' (H.put nx y) ι' Im nx y) (hyO:y.SE=false:=by rfl):
  ∃ι',ι' nx=⟨w.heap.size,cap,[]⟩/\zf w' (H.put nx y) ι' Im/\vj w H ι Im w' (H.put nx y) ι' Im:=by
 have hf:=Wc jf hX;obtain⟨h1,h2⟩:=zf.put (JZ:=NG hf) (hy:=hyO) hi (w' :=w') nx y ⟨w.heap.size,cap,[]⟩ (fun x hx=>by rw[hf]at hx;cases hx) ⟨by rw[hw];simp,OL⟩
  (fun b hb _=>by rw[hw];simp[Array.getElem?_push,Nat.ne_of_lt hb]) (fun _=> .inl (ju _))
  (oW _ z?)
 exact⟨_,z?,h1,h2⟩
theorem ky(n:Nat):wQ (0,0) n:=⟨ju _,fun i _ h=>by simp at h⟩
theorem SQ(hi:zf w H ι Im){nx:Nat}{X:Nat->Prop}(jf:Bd X H nx)(hX: ¬X nx)(c:List AV)(vs:List Value)(elem:TypeId)
  (hl:c.length=vs.length) (hf: ∀x∈c,x.wc=true) (h: ∀(i:Nat) x v,c[i]? =some x->vs[i]? =some v->RA w H ι Im x v):
  tA X w H ι Im nx (.ptr nx 0,[(nx,.box c)],nx+1) (.pointer (some ⟨w.heap.size,0,none⟩)) { w with heap:=w.heap.push (.cells ⟨vs⟩ elem) }:=by
 obtain⟨ι',h0,h1,h2⟩:=zf.new hi jf hX { w with heap:=w.heap.push (.cells ⟨vs⟩ elem) } (.box c) (.cells ⟨vs⟩ elem) 0 rfl ⟨rfl,rfl⟩ (fun ι' hp he=>by
  refine⟨⟨vs⟩,elem,(0,0),by simp[hp],ky _,by simpa using hl,hf,fun i x v hx hv=>?_⟩
  exact(h i x v hx (by simpa using hv)).mono hi he)
 refine⟨ι',h1,h2, ?_,z?,u7 jf z? (.inl z?)⟩;have hg:(za [(nx,qJ.box c)] H).get nx=some (.box c):=by simp[za,qp.zm]
 have:=RA.ptr (w:={ w with heap:=w.heap.push (.cells ⟨vs⟩ elem) }) (ι:=ι') (Im:=Im) nx 0 _ hg rfl;rw[h0]at this;exact this
theorem Zc(t:TypeId)(v:Value):(newVar t v).run P w= .ok ⟨w.heap.size,0,none⟩ { w with heap:=w.heap.push (.cells v.cells t) }:=by simp[newVar,newRow]
theorem Ql{t:TypeId}{ti:TI}(ht:zT P t ti): ∃z,(zeroValue t).run P w= .ok z w/\ti.zero.length=z.cells.size/\
  (∀(i:Nat) p v,ti.zero[i]? =some p->z.cells.toList[i]? =some v->RP w Im p v)/\Z3 z=ti.td.isAgg:=by obtain⟨i,z,h1,h2,h3,h4,h5,h6⟩:=ht.info;obtain⟨g1,g2,g3⟩:=X7 (w:=w) (Im:=Im) h5;refine⟨z,by simp[zeroValue,bj h1,h4],by simpa using g1,g3,h6⟩
theorem Df{t:TypeId}{ti:TI}(ht:zT P t ti)(hi:zf w H ι Im){nx:Nat}{X:Nat->Prop}(jf:Bd X H nx)(hX: ¬X nx):
  ∃u w',(Instr.alloc t true (.tuple #[])).run P w= .ok u w' /\tA X w H ι Im nx (.ptr nx 0,[(nx,.box (ti.zero.map .pv))],nx+1) u w' :=by obtain⟨z,h1,h2,h3,_⟩:=Ql (w:=w) (Im:=Im) ht;refine⟨_,_, ?_,SQ hi jf hX (ti.zero.map .pv) z.cells.toList t (by simpa using h2) (fun x hx=>?_) (fun i x v hx hv=>?_)⟩;unfold Instr.alloc;simp[h1,Zc];simp only[G?]at hx;obtain⟨p,hp,rfl⟩:=hx;exact ht.wc p hp;simp only[K?,yZ]at hx;obtain⟨p,hp,rfl⟩:=hx;exact .pv _ _ (h3 i p v hp hv)
theorem Po{G:GP}{t:TypeId}{ti:TI}(ht:zT P t ti)(hi:zf w H ι Im){nx:Nat}{X:Nat->Prop}(jf:Bd X H nx){e:my}(hr:Zy G t ti nx=some e)(hX: ∀γ,X γ->e.2.2<=γ):
  ∃u w',(Instr.alloc t true (.tuple #[])).run P w= .ok u w' /\tA X w H ι Im nx e u w' :=by unfold Zy at hr;cases hr
theorem aBox_ok{t:TypeId}(hi:zf w H ι Im){nx:Nat}{X:Nat->Prop}(jf:Bd X H nx)(hX: ¬X nx){x:AV}{v:Value}(hx:RA w H ι Im x v)(hs:x.MA=true):
  ∃u w',(Instr.box t v).run P w= .ok u w' /\tA X w H ι Im nx (.ptr nx 0,[(nx,.box x.cells)],nx+1) u w' :=by obtain⟨c1,c2,c3,c4⟩:=AV.dZ hx hs;refine⟨_,_, ?_,SQ hi jf hX x.cells v.cells.toList t (by simpa using c1) c2 c4⟩;unfold Instr.box;simp[Zc]
theorem IF{t:TypeId}(hi:zf w H ι Im){x:AV}{v:Value}(hx:RA w H ι Im x v)(hs:x.MA=true){l:List PV}(hl:ll x.cells=some l):
    ∃u w' kh,(Instr.box t v).run P w= .ok u w' /\zf w' H ι kh/\vj w H ι Im w' H ι kh/\RA w' H ι kh (.pv (.rp l)) u:=by
  obtain⟨c1,c2,c3,c4⟩:=AV.dZ hx hs
  have Xi:=o7 hl
  have hold: ∀b,b<w.heap.size->(w.heap.push (.cells v.cells t))[b]? =w.heap[b]? :=fun b hb=>by simp[Q_,M' hb]
  have he:vj w H ι Im { w with heap:=w.heap.push (.cells v.cells t) } H ι (fun b=>Im b\/b=w.heap.size):=
    { comp:=fun β b h=>⟨b,h,gb b _⟩
      im:=fun _ h=> .inl h
      pX:=fun b h=>by
        rcases h with h|h
        · exact .inl h
        · exact .inr (.inl o?)
      nS:=fun β x z h hu=> .inr ⟨β,x,h,hu⟩
      kR:=fun b hb _=>hold b hb
      size:=z?
      io:=⟨rfl,rfl⟩ }
  refine⟨.pointer (some ⟨w.heap.size,0,none⟩), { w with heap:=w.heap.push (.cells v.cells t) },fun b=>Im b\/b=w.heap.size, ?_, ?_,he, ?_⟩
  · unfold Instr.box
    simp[Zc]
  · exact{
      ru:=fun β b hb=>(hi.ru β b hb).mono hi he (fun hu=>⟨rfl,fun x hx=>hold _ ((hi.ru β b hb).cn hx)⟩)
      inj:=hi.inj
      im:=fun b h=>by
        rcases h with h|h
        · have:=hi.im b h;simp;omega
        · simp;omega
      Vt:=fun β b z hb hu h=>by
        rcases h with h|h
        · exact hi.Vt β b z hb hu h
        · have:=(hi.ru β b hb).cn hu;omega
      N0:=xn.go hi.N0 hi.VS fun b hb=>hold b (hi.im b hb)
      VS:=fun b hb=> .inl (hi.VS b hb) }
  · refine .pv _ _ (.rp l w.heap.size 0 (fun i=>(v.cells[i]?).getD undef) (.inr rfl) (fun i xS=>?_) (fun p hp=>?_) (fun i p hp=>?_))
    · have hlt' :i<v.cells.size:=by rw[<- c1,Xi];simpa using xS
      simp[B',hlt']
    · have:=c2 (.pv p) (by rw[Xi];exact G?.2 ⟨p,hp,rfl⟩)
      exact this
    · have h1:x.cells[i]? =some (.pv p):=by rw[Xi];simp[hp]
      have hlt' :i<v.cells.size:=by rw[<- c1];exact(qL h1).1
      have h2:v.cells.toList[i]? =some v.cells[i]:=by simp[hlt']
      have h3:=(c4 i _ _ h1 h2).mono hi he
      simp only[hlt',Array.getElem?_eq_getElem,e!]
      cases h3 with|pv _ _ h=>exact h
theorem Yz(off:Nat): ∀(l:List Value)(j:Nat)(cs:Array Value),off+j+l.length<=cs.size->
  ((l.zipIdx j).foldl (fun cs (c,j)=>cs.setIfInBounds (off+j) c) cs).size=cs.size/\
  ∀k,((l.zipIdx j).foldl (fun cs (c,j)=>cs.setIfInBounds (off+j) c) cs)[k]? =if off+j<=k/\k<off+j+l.length then l[k-(off+j)]? else cs[k]?
 |[],j,cs,_=>⟨rfl,fun k=>by rw[if_neg z?];rfl⟩
 |x::r,j,cs,h=>by simp only[b?]at h;obtain⟨h1,h2⟩:=Yz off r (j+1) (cs.setIfInBounds (off+j) x) v?;simp only[List.zipIdx_cons,List.foldl_cons];refine⟨by simpa using h1,fun k=>?_⟩;rw[h2 k];simp only[b?,T_];by_cases hk:off+(j+1)<=k/\k<off+(j+1)+r.length;rw[if_pos hk,if_pos o?];obtain⟨m,rfl⟩: ∃m,k=off+j+(m+1):=⟨k-(off+j+1),o?⟩;rw[show off+j+(m+1)-(off+(j+1))=m from o?,show off+j+(m+1)-(off+j)=m+1 from o?];rfl;rw[if_neg hk];by_cases Sr:off+j=k;subst Sr;rw[if_pos rfl,if_pos o?,if_pos o?];simp;rw[if_neg Sr,if_neg o?]
theorem ek(off:Nat)(l:Array Value)(cs:Array Value)(h:off+l.size<=cs.size):
  (l.zipIdx.foldl (fun cs (c,j)=>cs.setIfInBounds (off+j) c) cs).size=cs.size/\
  ∀k,(l.zipIdx.foldl (fun cs (c,j)=>cs.setIfInBounds (off+j) c) cs)[k]? =if off<=k/\k<off+l.size then l[k-off]? else cs[k]? :=by have h1:=Yz off l.toList 0 cs (by simpa using h);rw[<- Array.foldl_toList];simpa using h1
def RY(w:World)(H:qp)(ι:yv)(Im:Nat->Prop)(c:List AV)(cs:Array Value):Prop:=
 c.length=cs.size/\(∀ x∈c,x.wc=true)/\ ∀(i:Nat) x v,c[i]? =some x->cs[i]? =some v->RA w H ι Im x v
theorem W5{a:Act}{E:yu}(hE: ∀t,RA w H ι Im (E.get t) (a.tmps.getD t undef))(zk TJ:Nat->Option (Nat×Nat))
  (dg: ∀i x,zk i=some x->TJ i=some x): ∀(parts:List (Nat×Operand))(c:List AV)(cs:Array Value),RY w H ι Im c cs->
  ∀{r:List AV},lA zk (ev E) parts c=some r-> ∃rs,Instr.fill TJ cs (parts.map fun(i,x)=>(i,a.eval x))=some rs/\RY w H ι Im r rs
 |[],c,cs,hc,r,h=>by simp only[lA,wd]at h;subst h;exact⟨cs,rfl,hc⟩
 |(i,x)::rest,c,cs,hc,r,h=>by simp only[lA]at h;split at h;rotate_left;cases h;rename_i off size hp;split at h;rotate_left;cases h;(rename_i N2;obtain⟨hs,hl,ho⟩:=N2;have hx:=QH hE x;obtain⟨c1,c2,c3,c4⟩:=AV.dZ hx hs;obtain⟨d1,d2,d3⟩:=hc;have Ej:(a.eval x).cells.size=size:=o?;obtain⟨f1,f2⟩:=ek off (a.eval x).cells cs o?;have Gt:RY w H ι Im (c.take off++(ev E x).cells++c.drop (off+size)) ((a.eval x).cells.zipIdx.foldl (fun cs (c,j)=>cs.setIfInBounds (off+j) c) cs):=by refine⟨by rw[f1];simp;omega,fun y hy=>?_,fun k y v hy hv=>?_⟩;simp only[p?]at hy;rcases hy with (hy|hy)|hy;exact d2 y (Y? hy);exact c2 y hy;exact d2 y (q! hy);rw[<- hl,kX c (ev E x).cells off k o?]at hy;rw[f2 k,Ej,<- hl]at hv;split at hy;rename_i hk;rw[if_pos hk]at hv;exact c4 _ y v hy (by simpa using hv);rename_i hk;rw[if_neg hk]at hv;exact d3 k y v hy hv);(obtain⟨rs,g1,g2⟩:=W5 hE zk TJ dg rest _ _ Gt h;refine⟨rs, ?_,g2⟩;simp only[d?,Instr.fill,dg _ _ hp];have JZ: ¬(decide ((a.eval x).cells.size≠size) || decide (off+(a.eval x).cells.size>cs.size))=true:=by simp only[j!,decide_eq_true_eq];omega);rw[if_neg JZ];exact g1
theorem K8(fields:Array Field)(sz:Field->Nat)(h: ∀f∈fields.toList,(sizeOf f.type).run P w= .ok (sz f) w):
  (fields.mapM fun f=>do pure (f.offset,<- sizeOf f.type):Sem _).run P w= .ok (fields.map fun f=>(f.offset,sz f)) w:=by
 rw[Array.mapM_eq_mapM_toList];have key: ∀(l:List Field),(∀ f∈l,(sizeOf f.type).run P w= .ok (sz f) w)->
   (l.mapM fun f=>do pure (f.offset,<- sizeOf f.type):Sem _).run P w= .ok (l.map fun f=>(f.offset,sz f)) w:=by
  intro l;induction l with
  |nil=>intro _;simp
  |cons f r ih=>
   intro h;have h1:=h f z?;have h2:=ih fun g hg=>h g (by simp[hg]);simp only[List.mapM_cons,kf,h1,mb,W?,h2,d?]
 simp only[Sem.run_map,key fields.toList h,mb];congr 1;apply I!;simp
theorem Mo{t:TypeId}{i:TypeInfo}(h:P.info? t=some i):(sizeOf t).run P w= .ok (P.cellsOf t) w:=by simp[sizeOf,bj h,Program.cellsOf,h]
theorem Dg{G:TypeId->Option TI}(hG: ∀t ti,G t=some ti->zT P t ti){t:TypeId}{ti:TI}(ht:zT P t ti)
  {a:Act} {E:yu} (hE: ∀t,RA w H ι Im (E.get t) (a.tmps.getD t undef)) (parts:Array (Nat×Operand)) {r:AV} (hr:KC ti G (ev E) parts.toList=some r):
  ∃u,(Instr.build t (parts.map fun(i,x)=>(i,a.eval x))).run P w= .ok u w/\RA w H ι Im r u:=by
 obtain⟨z,h1,h2,h3,h4⟩:=Ql (w:=w) (Im:=Im) ht;have hz:RY w H ι Im (ti.zero.map .pv) z.cells:=by refine⟨by simpa using h2,fun x hx=>?_,fun i x v hx hv=>?_⟩;simp only[G?]at hx;obtain⟨p,hp,rfl⟩:=hx;exact ht.wc p hp;simp only[K?,yZ]at hx;obtain⟨p,hp,rfl⟩:=hx;exact .pv _ _ (h3 i p v hp (by simpa using hv))
 have XJ:(parts.map fun(i,x)=>(i,a.eval x)).toList=parts.toList.map fun(i,x)=>(i,a.eval x):=z?;unfold KC at hr;unfold Instr.build;simp only[kf,h1,mb];split at hr
 ·rename_i fs jF;obtain⟨fields,hu,rfl⟩:=ht.struct jF;have hkn: ∀f∈fields.toList,(sizeOf f.type).run P w= .ok (P.cellsOf f.type) w:=by intro f hf;have hk:=ht.known;unfold lz at hk;rw[hu]at hk;have:=List.all_eq_true.1 hk f hf;obtain⟨i,hi⟩:=Option.isSome_iff_exists.1 this;exact Mo hi
  split at hr<;>cases hr;rename_i c hc;obtain⟨rs,g1,g2⟩:=W5 hE _ ((fields.map fun f=>(f.offset,P.cellsOf f.type))[·]?) (fun i x hx=>by
   unfold ly at hx
   simp only[K?]at hx
   cases hf:fields.toList[i]? with
   |none=>simp[hf]at hx
   |some f=>
    simp only[hf,D!,wd]at hx
    have:fields[i]? =some f:=by rw[<- hf];simp
    simp[this,<- hx]) parts.toList _ _ hz hc
  simp only[qy hu,mb,kf,K8 fields _ hkn,XJ,g1];exact⟨.agg rs,z?,lJ (by simpa using g2.1) g2.2.1 fun i x v hx hv=>g2.2.2 i x v hx (by simpa using hv)⟩
 {rename_i len e jF;have hu:=ht.array jF;split at hr;rotate_left;cases hr;rename_i te dy;split at hr<;>cases hr;rename_i c hc;obtain⟨rs,g1,g2⟩:=W5 hE _ (fun i=>some (i*te.size,te.size)) (fun i x hx=>hx) parts.toList _ _ hz hc;simp only[qy hu,mb,kf,(hG _ _ dy).size,XJ,g1];exact⟨.agg rs,z?,lJ (by simpa using g2.1) g2.2.1 fun i x v hx hv=>g2.2.2 i x v hx (by simpa using hv)⟩};cases hr
end
section
variable [xn] {P:Program} {w:World} {H:qp} {ι:yv} {Im:Nat->Prop}
def jb(w:World)(Im:Nat->Prop)(sz:Nat)(es:List (List PV))(cs:Nat->Option Value):Prop:=
 (∀ e∈es,e.length=sz)/\(∀(i:Nat) e(j:Nat) p,es[i]? =some e->e[j]? =some p->p.wc=true)/\
 ∀(i:Nat) e(j:Nat) p,es[i]? =some e->e[j]? =some p-> ∃v,cs (i*sz+j)=some v/\RP w Im p v
theorem jb.mono{w' :World}{kh:Nat->Prop}(hi: ∀b,Im b->kh b)(hw: ∀b,Im b->w'.heap[b]? =w.heap[b]?){sz:Nat}{es:List (List PV)}
  {cs:Nat->Option Value} (h:jb w Im sz es cs):jb w' kh sz es cs:=
 ⟨h.1,h.2.1,fun i e j p a b=>let⟨v,g1,g2⟩:=h.2.2 i e j p a b;⟨v,g1,g2.mono hi hw⟩⟩
theorem Kn(hi:zf w H ι Im){nx:Nat}{X:Nat->Prop}(jf:Bd X H nx)(hX: ¬X nx)(sz:Nat)(es:List (List PV))(cs:Array Value)(elem:TypeId)
  (fz:Nat×Nat) (cap:Nat) (w' :World) (hw:w'.heap=w.heap.push (.cells cs elem fz)) (OL:w'.os=w.os/\w'.output=w.output) (hfz:wQ fz cs.size) (ml:0<sz) (hc:cs.size=cap*sz)
  (JV:es.length<=cap) (h:jb w Im sz es (cs[·]?)):
  tA X w H ι Im nx (.row nx es.length 0 es.length,[(nx,.row false sz es)],nx+1) (.slice (some ⟨w.heap.size,0,none⟩) es.length cap) w' :=by
 obtain⟨ι',h0,h1,h2⟩:=zf.new hi jf hX w' (.row false sz es) (.cells cs elem fz) cap hw OL (fun ι' hp he=>by
  have hk: ∀b,Im b->w'.heap[b]? =w.heap[b]? :=fun b hb=>he.ZS hi b hb
  obtain⟨k1,k2,k3⟩:=h.mono he.im hk
  exact⟨cs,elem,fz,by simp[hp,hw],hfz,by simp[hp,hc],ml,by simp[hp,JV],k1,k2,k3⟩)
 refine⟨ι',h1,h2, ?_,z?,u7 jf z? (.inl z?)⟩;have hg:(za [(nx,qJ.row false sz es)] H).get nx=some (.row false sz es):=by simp[za,qp.zm]
 refine .row nx _ 0 _ _ _ rfl hg (fun _=>⟨_,_,_,rfl⟩) (fun _ _ _ e=>by cases e;exact ju _) fun _ _ _ e _=>?_;cases e;refine⟨z?, ?_⟩;simp only[wH,if_false];exact⟨⟨w.heap.size,0,none⟩,by simp[h0],rfl,by simp[h0],fun _=>z?⟩
def mf(w:World)(H:qp)(ι:yv)(Im:Nat->Prop)(sz:Nat)(es:List (List AV))(cs:Nat->Option Value):Prop:=
 (∀ e∈es,e.length=sz)/\(∀(i:Nat) e(j:Nat) x,es[i]? =some e->e[j]? =some x->x.wc=true)/\
 ∀(i:Nat) e(j:Nat) x,es[i]? =some e->e[j]? =some x-> ∃v,cs (i*sz+j)=some v/\RA w H ι Im x v
theorem mf.mono{w' :World}{H' :qp}{ι' :yv}{kh:Nat->Prop}(hi:zf w H ι Im)(he:vj w H ι Im w' H' ι' kh){sz:Nat}{es:List (List AV)}
  {cs:Nat->Option Value} (h:mf w H ι Im sz es cs):mf w' H' ι' kh sz es cs:=
 ⟨h.1,h.2.1,fun i e j p a b=>let⟨v,g1,g2⟩:=h.2.2 i e j p a b;⟨v,g1,g2.mono hi he⟩⟩
theorem q01(hi:zf w H ι Im){nx:Nat}{X:Nat->Prop}(jf:Bd X H nx)(hX: ¬X nx)(sz:Nat)(es:List (List AV))(cs:Array Value)(elem:TypeId)
  (fz:Nat×Nat) (cap:Nat) (w' :World) (hw:w'.heap=w.heap.push (.cells cs elem fz)) (OL:w'.os=w.os/\w'.output=w.output) (hfz:wQ fz cs.size) (ml:0<sz) (hc:cs.size=cap*sz)
  (JV:es.length<=cap) (h:mf w H ι Im sz es (cs[·]?)):
  tA X w H ι Im nx (.row nx es.length 0 es.length,[(nx,.mr sz es)],nx+1) (.slice (some ⟨w.heap.size,0,none⟩) es.length cap) w' :=by
 obtain⟨ι',h0,h1,h2⟩:=zf.new hi jf hX w' (.mr sz es) (.cells cs elem fz) cap hw OL (fun ι' hp he=>by
  obtain⟨k1,k2,k3⟩:=h.mono hi he
  exact⟨cs,elem,fz,by simp[hp,hw],hfz,by simp[hp,hc],ml,by simp[hp,JV],k1,k2,k3⟩)
 refine⟨ι',h1,h2, ?_,z?,u7 jf z? (.inl z?)⟩;have hg:(za [(nx,qJ.mr sz es)] H).get nx=some (.mr sz es):=by simp[za,qp.zm]
 refine .row nx _ 0 _ _ _ rfl hg (fun _=>⟨_,_,_,rfl⟩) (fun _ _ _ e=>by cases e;exact ju _) fun _ _ _ e _=>?_;cases e;refine⟨z?, ?_⟩;simp only[wH,if_false];exact⟨⟨w.heap.size,0,none⟩,by simp[h0],rfl,by simp[h0],fun _=>z?⟩
theorem X4{x:AV}{v:Value}(hx:RA w H ι Im x v){p:PV}(h:WW x=some p):RP w Im p v:=by unfold WW at h;split at h<;>cases h;cases hx;assumption;cases hx with|iW a=>exact .sl 0 [] a.block a.off 0 (fun _=>undef) (fun h=>absurd rfl h) (E! _) z? (fun i xS=>by simp at xS) z? z? a.spot (fun h=>absurd rfl h)
theorem PV.dZ{p:PV}{v:Value}(h:RP w Im p v):p.cells.length=v.cells.size/\(∀ q∈p.cells,q.wc=true)/\
  ∀(i:Nat) q u,p.cells[i]? =some q->v.cells[i]? =some u->RP w Im q u:=by by_cases hp:p.wc=true;(have ho:=h.dz hp;have e1:p.cells=[p]:=by cases p<;>first|rfl|cases hp);(have e2:v.cells= #[v]:=by cases v<;>first|rfl|cases ho);(rw[e1,e2];refine⟨rfl,by simpa using hp,fun i q u hq hu=>?_⟩;cases i with|zero=>simp at hq hu;subst hq hu;exact h|succ i=>simp at hq);cases h with|agg c vs hl hf h=>exact⟨by simpa[PV.cells,Value.cells]using hl,hf,fun i q u hq hu=>h i q u hq (by simpa[Value.cells]using hu)⟩|_=>exact absurd rfl hp
theorem W7{a:Act}{E:yu}(hE: ∀t,RA w H ι Im (E.get t) (a.tmps.getD t undef))(size:Nat): ∀(parts:List (Nat×Operand))(es:List (List PV))(cs:Array Value),
  cs.size=es.length*size->jb w Im size es (cs[·]?)->
  ∀{r:List (List PV)},rH size (ev E) parts es=some r-> ∃rs,Instr.fill (fun i=>some (i*size,size)) cs (parts.map fun(i,x)=>(i,a.eval x))=some rs/\
   r.length=es.length/\rs.size=es.length*size/\jb w Im size r (rs[·]?)
 |[],es,cs,hs,hc,r,h=>by simp only[rH,wd]at h;subst h;exact⟨cs,rfl,rfl,hs,hc⟩
 |(i,x)::rest,es,cs,hs,hc,r,h=>by
  simp only[rH]at h;split at h;rotate_left;cases h;rename_i p hp;split at h;rotate_left;cases h;(rename_i N2;obtain⟨dg,eo⟩:=N2;have hx:=X4 (QH hE x) hp;obtain⟨c1,c2,c3⟩:=PV.dZ hx;have Ej:(a.eval x).cells.size=size:=o?;have dm:i*size+size<=cs.size:=by rw[hs,<- B?];exact mulR _ eo);obtain⟨f1,f2⟩:=ek (i*size) (a.eval x).cells cs o?;have pf: ∀(i' :Nat) e',(es.set i p.cells)[i']? =some e' ->(i' =i/\e' =p.cells)\/(i' ≠i/\es[i']? =some e'):=by intro i' e' h;rw[T!]at h;by_cases MR:i=i';subst MR;simp[eo]at h;exact .inl ⟨rfl,h.symm⟩;simp[MR]at h;exact .inr ⟨c_ MR,h⟩
  obtain⟨rs,g1,g2,g3,g4⟩:=W7 hE size rest (es.set i p.cells) _ (by rw[f1];simpa using hs) (by
   refine⟨fun e he=>?_,fun i' e' j q uj hj=>?_,fun i' e' j q uj hj=>?_⟩
   ·obtain⟨i',uj⟩:=jI he
    rcases pf i' e uj with ⟨_,rfl⟩|⟨_,h⟩
    ·exact dg
    exact hc.1 e (zc h)
   ·rcases pf i' e' uj with ⟨_,rfl⟩|⟨_,h⟩
    ·exact c2 q (zc hj)
    exact hc.2.1 i' e' j q h hj
   have N5:j<size:=by
    have h1:=(qL hj).1
    rcases pf i' e' uj with ⟨_,rfl⟩|⟨_,h⟩
    ·omega
    have:=hc.1 e' (zc h)
    omega
   show ∃v,_/\_
   simp only[f2]
   rcases pf i' e' uj with ⟨rfl,rfl⟩|⟨jZ,h⟩
   ·rw[if_pos o?,show i' *size+j-i' *size=j from o?]
    obtain⟨u,hu⟩: ∃u,(a.eval x).cells[j]? =some u:=⟨(a.eval x).cells[j]'(o?),z?⟩
    exact⟨u,hu,c3 j q u hj hu⟩
   obtain⟨u,hu,hr⟩:=hc.2.2 i' e' j q h hj
   have XI: ¬(i*size<=i' *size+j/\i' *size+j<i*size+(a.eval x).cells.size):=by
    rcases B_ jZ with xS|MP
    ·have:(i' +1)*size<=i*size:=mulR _ xS
     rw[B?]at this
     omega
    have:(i+1)*size<=i' *size:=mulR _ MP
    rw[B?]at this
    omega
   rw[if_neg XI]
   exact⟨u,hu,hr⟩) h
  (refine⟨rs, ?_,by simpa using g2,by simpa using g3,g4⟩;have JZ: ¬(decide ((a.eval x).cells.size≠size) || decide (i*size+(a.eval x).cells.size>cs.size))=true:=by simp only[j!,decide_eq_true_eq];omega);simp only[d?,Instr.fill];rw[if_neg JZ];exact g1
theorem Jf{a:Act}{E:yu}(hE: ∀t,RA w H ι Im (E.get t) (a.tmps.getD t undef))(size:Nat): ∀(parts:List (Nat×Operand))(es:List (List AV))(cs:Array Value),
  cs.size=es.length*size->mf w H ι Im size es (cs[·]?)->
  ∀{r:List (List AV)},pV size (ev E) parts es=some r-> ∃rs,Instr.fill (fun i=>some (i*size,size)) cs (parts.map fun(i,x)=>(i,a.eval x))=some rs/\
   r.length=es.length/\rs.size=es.length*size/\mf w H ι Im size r (rs[·]?)
 |[],es,cs,hs,hc,r,h=>by simp only[pV,wd]at h;subst h;exact⟨cs,rfl,rfl,hs,hc⟩
 |(i,x)::rest,es,cs,hs,hc,r,h=>by
  simp only[pV]at h;split at h;rotate_left;cases h;(rename_i N2;obtain⟨Wo,dg,eo⟩:=N2;obtain⟨c1,c2,_,c3⟩:=AV.dZ (QH hE x) Wo;have Ej:(a.eval x).cells.size=size:=o?;have dm:i*size+size<=cs.size:=by rw[hs,<- B?];exact mulR _ eo);obtain⟨f1,f2⟩:=ek (i*size) (a.eval x).cells cs o?;have pf: ∀(i' :Nat) e',(es.set i (ev E x).cells)[i']? =some e' ->(i' =i/\e' =(ev E x).cells)\/(i' ≠i/\es[i']? =some e'):=by intro i' e' h;rw[T!]at h;by_cases MR:i=i';subst MR;simp[eo]at h;exact .inl ⟨rfl,h.symm⟩;simp[MR]at h;exact .inr ⟨c_ MR,h⟩
  obtain⟨rs,g1,g2,g3,g4⟩:=Jf hE size rest (es.set i (ev E x).cells) _ (by rw[f1];simpa using hs) (by
   refine⟨fun e he=>?_,fun i' e' j q uj hj=>?_,fun i' e' j q uj hj=>?_⟩
   ·obtain⟨i',uj⟩:=jI he
    rcases pf i' e uj with ⟨_,rfl⟩|⟨_,h⟩
    ·exact dg
    exact hc.1 e (zc h)
   ·rcases pf i' e' uj with ⟨_,rfl⟩|⟨_,h⟩
    ·exact c2 q (zc hj)
    exact hc.2.1 i' e' j q h hj
   have N5:j<size:=by
    have h1:=(qL hj).1
    rcases pf i' e' uj with ⟨_,rfl⟩|⟨_,h⟩
    ·omega
    have:=hc.1 e' (zc h)
    omega
   show ∃v,_/\_
   simp only[f2]
   rcases pf i' e' uj with ⟨rfl,rfl⟩|⟨jZ,h⟩
   ·rw[if_pos o?,show i' *size+j-i' *size=j from o?]
    obtain⟨u,hu⟩: ∃u,(a.eval x).cells[j]? =some u:=⟨(a.eval x).cells[j]'(o?),z?⟩
    exact⟨u,hu,c3 j q u hj (by simpa using hu)⟩
   obtain⟨u,hu,hr⟩:=hc.2.2 i' e' j q h hj
   have XI: ¬(i*size<=i' *size+j/\i' *size+j<i*size+(a.eval x).cells.size):=by
    rcases B_ jZ with xS|MP
    ·have:(i' +1)*size<=i*size:=mulR _ xS
     rw[B?]at this
     omega
    have:(i+1)*size<=i' *size:=mulR _ MP
    rw[B?]at this
    omega
   rw[if_neg XI]
   exact⟨u,hu,hr⟩) h
  (refine⟨rs, ?_,by simpa using g2,by simpa using g3,g4⟩;have JZ: ¬(decide ((a.eval x).cells.size≠size) || decide (i*size+(a.eval x).cells.size>cs.size))=true:=by simp only[j!,decide_eq_true_eq];omega);simp only[d?,Instr.fill];rw[if_neg JZ];exact g1
theorem Gr{te:TI}{t:TypeId}(ht:zT P t te){z:Value}(h2:te.zero.length=z.cells.size)
  (h3: ∀(i:Nat) p v,te.zero[i]? =some p->z.cells.toList[i]? =some v->RP w Im p v) (len:Nat):
  jb w Im te.size (e? len te.zero) (((A! (len*te.size)).map (z.cells[· % z.cells.size]!))[·]?):=by
 refine⟨fun e he=>?_,fun i e j p hi hj=>?_,fun i e j p hi hj=>?_⟩;rw[List.eq_of_mem_replicate he,ht.len];rw[u_]at hi;split at hi<;>cases hi;exact ht.wc p (zc hj);rw[u_]at hi;split at hi<;>cases hi;rename_i xS;have Sq:=(qL hj).1;have hl:=ht.len;have hb:i*te.size+j<len*te.size:=by have:(i+1)*te.size<=len*te.size:=mulR _ xS;rw[B?]at this;omega
 have hm:(i*te.size+j) % z.cells.size=j:=by rw[<- h2,hl,Y!,Nat.mul_add_mod];exact Nat.mod_eq_of_lt o?
 have hjz:j<z.cells.size:=o?;refine⟨z.cells[j], ?_,h3 j p _ hj (by simp[hjz])⟩;simp[hb,hm,hjz]
theorem KD{G:TypeId->Option TI}(hG: ∀t ti,G t=some ti->zT P t ti){t e:TypeId}{ti te:TI}(ht:zT P t ti)(jF:ti.td= .slice e)(dy:G e=some te)
  (hi:zf w H ι Im) {nx:Nat} {X:Nat->Prop} (jf:Bd X H nx) (hX: ¬X nx)
  {a:Act} {E:yu} (hE: ∀t,RA w H ι Im (E.get t) (a.tmps.getD t undef)) (len:Nat) (parts:Array (Nat×Operand)) (tJ:0<te.size) (hlen:len*te.size<=2^24)
  {es:List (List PV)} (hr:rH te.size (ev E) parts.toList (e? len te.zero)=some es):
  ∃u w',(Instr.buildSlice t len (parts.map fun(i,x)=>(i,a.eval x))).run P w= .ok u w' /\
   tA X w H ι Im nx (.row nx es.length 0 es.length,[(nx,.row false te.size es)],nx+1) u w' :=by
 have sJ:=hG _ _ dy;obtain⟨z,h1,h2,h3,h4⟩:=Ql (w:=w) (Im:=Im) sJ;have hzr:=Gr (w:=w) (Im:=Im) sJ h2 h3 len;obtain⟨rs,g1,g2,g3,g4⟩:=W7 hE te.size parts.toList _ _ z? hzr hr;have df:es.length=len:=by simpa using g2
 have XJ:(parts.map fun(i,x)=>(i,a.eval x)).toList=parts.toList.map fun(i,x)=>(i,a.eval x):=z?;refine⟨.slice (some ⟨w.heap.size,0,none⟩) es.length es.length, { w with heap:=w.heap.push (.cells rs e) }, ?_,Kn hi jf hX te.size es rs e (0,0) es.length _ rfl ⟨rfl,rfl⟩ (ky _) tJ (by rw[g3,df];simp) (ju _) g4⟩;unfold Instr.buildSlice;simp only[kf,qy (ht.slice jF),mb,sJ.size];rw[XJ];have JZ: ¬(len*te.size>2^24):=o?;by_cases h0:len*te.size=0;simp only[h0]at g1 |-;have hz0:((A! 0).map fun x=>(#[]:Array Value)[x % (#[]:Array Value).size]!)=((A! 0).map (z.cells[· % z.cells.size]!)):=z?;simp only[q18,q0u,gt_iff_lt,if_false,W?,mb,if_true,kf,hz0,g1,df];simp[newRow];simp only[JZ,if_false,W?,mb,h0,kf,h1,g1,df];simp[newRow]
theorem zeroRowA{sz:Nat}{z:List PV}{len:Nat}{cs:Nat->Option Value}(h:jb w Im sz (e? len z) cs):mf w H ι Im sz (e? len (z.map AV.pv)) cs:=by
 have get: ∀(i:Nat) e,(e? len (z.map AV.pv))[i]? =some e->(e? len z)[i]? =some z/\e=z.map AV.pv:=by intro i e h;rw[u_]at h |-;split at h<;>cases h;rename_i xS;exact⟨if_pos xS,rfl⟩
 refine⟨fun e he=>?_,fun i e j x hi hj=>?_,fun i e j x hi hj=>?_⟩;obtain⟨i,hi⟩:=jI he;obtain⟨h1,rfl⟩:=get i e hi;rw[j_];exact h.1 z (zc h1);obtain⟨h1,rfl⟩:=get i e hi;rw[K?,yZ]at hj;obtain⟨p,hp,rfl⟩:=hj;exact h.2.1 i z j p h1 hp;obtain⟨h1,rfl⟩:=get i e hi;rw[K?,yZ]at hj;obtain⟨p,hp,rfl⟩:=hj;obtain⟨v,g1,g2⟩:=h.2.2 i z j p h1 hp;exact⟨v,g1,.pv _ _ g2⟩
theorem JJ{G:TypeId->Option TI}(hG: ∀t ti,G t=some ti->zT P t ti){t e:TypeId}{ti te:TI}(ht:zT P t ti)(jF:ti.td= .slice e)(dy:G e=some te)
  (hi:zf w H ι Im) {nx:Nat} {X:Nat->Prop} (jf:Bd X H nx) (hX: ¬X nx)
  {a:Act} {E:yu} (hE: ∀t,RA w H ι Im (E.get t) (a.tmps.getD t undef)) (len:Nat) (parts:Array (Nat×Operand)) (tJ:0<te.size) (hlen:len*te.size<=2^24)
  {es:List (List AV)} (hr:pV te.size (ev E) parts.toList (e? len (te.zero.map .pv))=some es):
  ∃u w',(Instr.buildSlice t len (parts.map fun(i,x)=>(i,a.eval x))).run P w= .ok u w' /\
   tA X w H ι Im nx (.row nx es.length 0 es.length,[(nx,.mr te.size es)],nx+1) u w' :=by
 have sJ:=hG _ _ dy;obtain⟨z,h1,h2,h3,h4⟩:=Ql (w:=w) (Im:=Im) sJ;have hzr:=zeroRowA (H:=H) (ι:=ι) (Gr (w:=w) (Im:=Im) sJ h2 h3 len);obtain⟨rs,g1,g2,g3,g4⟩:=Jf hE te.size parts.toList _ _ z? hzr hr;have df:es.length=len:=by simpa using g2
 have XJ:(parts.map fun(i,x)=>(i,a.eval x)).toList=parts.toList.map fun(i,x)=>(i,a.eval x):=z?;refine⟨.slice (some ⟨w.heap.size,0,none⟩) es.length es.length, { w with heap:=w.heap.push (.cells rs e) }, ?_,q01 hi jf hX te.size es rs e (0,0) es.length _ rfl ⟨rfl,rfl⟩ (ky _) tJ (by rw[g3,df];simp) (ju _) g4⟩;unfold Instr.buildSlice;simp only[kf,qy (ht.slice jF),mb,sJ.size];rw[XJ];have JZ: ¬(len*te.size>2^24):=o?;by_cases h0:len*te.size=0;simp only[h0]at g1 |-;have hz0:((A! 0).map fun x=>(#[]:Array Value)[x % (#[]:Array Value).size]!)=((A! 0).map (z.cells[· % z.cells.size]!)):=z?;simp only[q18,q0u,gt_iff_lt,if_false,W?,mb,if_true,kf,hz0,g1,df];simp[newRow];simp only[JZ,if_false,W?,mb,h0,kf,h1,g1,df];simp[newRow]
theorem VJ{G:TypeId->Option TI}(hG: ∀t ti,G t=some ti->zT P t ti){t:TypeId}{ti:TI}(ht:zT P t ti)
  (hi:zf w H ι Im) {nx:Nat} {X:Nat->Prop} (jf:Bd X H nx) (hX: ∀γ,X γ->nx+1<=γ)
  {l c:AV} {vl vc:Value} (hl:RA w H ι Im l vl) (hc:RA w H ι Im c vc) {e:my} (hr:sE ti.td G l c nx=some e):
  ∃u w',(Instr.makeSlice t vl vc).run P w= .ok u w' /\tA X w H ι Im nx e u w' :=by
 unfold sE at hr;split at hr;rotate_left;cases hr;rename_i el jF;split at hr;rotate_left;cases hr;rename_i te n n' dy hln hcn;split at hr<;>cases hr;rename_i hh;obtain⟨rfl,tJ,bk⟩:=hh;have LV: ∀{x:AV}{v:Value}{m:Nat},RA w H ι Im x v->vW x=some m-> ∃k,v= .int k (m:Int):=by intro x v m hx hm;unfold vW at hm;split at hm;(rename_i k z;split at hm<;>cases hm;rename_i h0;cases hx with|pv _ _ h=>cases h;exact⟨k,by rw[q0b h0]⟩);cases hm
 obtain⟨k1,rfl⟩:=LV hl hln;obtain⟨k2,rfl⟩:=LV hc hcn;have sJ:=hG _ _ dy;obtain⟨i,z0,q1,q2,q3,q4,q5,q6⟩:=sJ.info;obtain⟨z,h1,h2,h3,h4⟩:=Ql (w:=w) (Im:=Im) sJ;have hzr:=Gr (w:=w) (Im:=Im) sJ h2 h3 n';simp only[qi,zU,decide_eq_true_eq]at bk;obtain⟨⟨r1,r2⟩,r3⟩:=bk;have hw0:q?.wrap (n' :Int)=(n' :Int):=IntWalk.i64_in _ ⟨o?,o?⟩;have hb:i.bytes*n' <=2^46:=by rw[q3,Y!];exact r1
 have JZ: ¬(((i.bytes:Int)*(n' :Int))>2^48):=by have:((i.bytes*n' :Nat):Int)<=2^46:=o?;rw[Int.natCast_mul]at this;omega
 refine⟨.slice (some ⟨w.heap.size,0,none⟩) (e? n' te.zero).length n', { w with heap:=w.heap.push (.cells ((A! (n' *te.size)).map (z.cells[· % z.cells.size]!)) el) }, ?_,Kn hi jf (aQ hX) te.size _ _ el (0,0) n' _ rfl ⟨rfl,rfl⟩ (ky _) tJ z? z? hzr⟩;unfold Instr.makeSlice;have hneg: ¬((n' :Int)<0):=o?;simp only[kf,qy (ht.slice jF),mb,asInt,asIntOf,W?,bj q1,hw0];have MP: ¬((n' :Int)>(n' :Int)):=o?;simp only[hneg,JZ,MP,decide_false,Bool.or_self,wH,if_false,Int.toNat_natCast,run_askRoom,mb,sJ.size,kf];by_cases h0:n' *te.size=0;have hz0:((A! 0).map fun x=>(#[]:Array Value)[x % (#[]:Array Value).size]!)=((A! 0).map (z.cells[· % z.cells.size]!)):=z?;simp only[h0,if_true,W?,mb,hz0,newRow,kf,run_newObj,P'];simp only[h0,if_false,kf,h1,W?,mb,newRow,run_newObj,P']
end
section
variable [xn] {P:Program} {w:World} {H:qp} {ι:yv} {Im:Nat->Prop}
theorem vj.bV{w' :World}(h:w'.heap=w.heap)(OL:w'.os=w.os/\w'.output=w.output):vj w H ι Im w' H ι Im where
 comp:=fun β b h=>⟨b,h,gb b _⟩
 im:=fun _ h=>h
 pX:=fun _ h=> .inl h
 nS:=fun β x z h hu=> .inr ⟨β,x,h,hu⟩
 kR:=fun _ _ _=>by rw[h]
 size:=by rw[h];exact ju _
 io:=OL
theorem zf.bV{w' :World}(h:w'.heap=w.heap)(OL:w'.os=w.os/\w'.output=w.output)(hi:zf w H ι Im):zf w' H ι Im where
 ru:=fun β b hb=>(hi.ru β b hb).mono hi (vj.bV h OL) (fun _=>⟨rfl,fun _ _=>by rw[h]⟩)
 inj:=hi.inj
 im:=fun b hb=>by rw[h];exact hi.im b hb
 Vt:=hi.Vt
 N0:=xn.go hi.N0 hi.VS fun b _=>by rw[h]
 VS:=hi.VS
theorem RA.bV{w' :World}(h:w'.heap=w.heap)(OL:w'.os=w.os/\w'.output=w.output)(hi:zf w H ι Im){x:AV}{v:Value}(hx:RA w H ι Im x v):RA w' H ι Im x v:=hx.mono hi (vj.bV h OL)
theorem tR(hi:zf w H ι Im){x:AV}{v:Value}(hx:RA w H ι Im x v){rz:Nat}{src:List (List PV)}(h:yN x H=some (rz,src)):
  (Builtin.lenOf v).run P w= .ok src.length w/\
  ∀size,(rz=size\/src=[])-> ∃cs,(Builtin.firstCells size src.length v).run P w= .ok cs w/\cs.size=src.length*size/\jb w Im size src (cs[·]?):=by
 have empty: ∀(v:Value),(∃ a c,v= .slice (some a) 0 c)\/(∃ c,v= .slice none 0 c)->(Builtin.lenOf v).run P w= .ok ([]:List (List PV)).length w/\
   ∀size,∃ cs,(Builtin.firstCells size ([]:List (List PV)).length v).run P w= .ok cs w/\cs.size=([]:List (List PV)).length*size/\jb w Im size [] (cs[·]?):=by
  intro v hv;rcases hv with ⟨a,c,rfl⟩|⟨c,rfl⟩
  ·refine⟨by simp[Builtin.lenOf],fun size=>⟨#[], ?_,z?,by simp[jb]⟩⟩;simp[Builtin.firstCells,loadCells,loadCellsFrom]
  exact⟨by simp[Builtin.lenOf],fun size=>⟨#[],by simp[Builtin.firstCells],z?,by simp[jb]⟩⟩
 unfold yN at h;split at h
 ·rename_i qw sz es;cases h;cases hx with
  |pv _ _ h=>cases h with
   |aP sz=>
    obtain⟨e1,e2⟩:=empty (.slice none 0 0) (.inr ⟨_,rfl⟩);exact⟨e1,fun size _=>e2 size⟩
   |sl _ _ b off cap vs Qt JV ml hc hf h sp Sz=>
    refine⟨by simp[Builtin.lenOf],fun size hs=>?_⟩;by_cases df:src=[]
    ·subst df;exact(empty _ (.inl ⟨_,_,rfl⟩)).2 size
    obtain rfl:=Sz df;rcases hs with rfl|rfl
    ·refine⟨((F? (src.length*rz)).map vs).toArray, ?_,z?,ml,hf,fun i e j p uj hj=>?_⟩
     ·simp only[Builtin.firstCells];exact run_loadCells b off _ vs hc
     have xS:=(qL uj).1;have Sq:=(qL hj).1;have he:=ml e (zc uj);have:(i+1)*rz<=src.length*rz:=mulR _ xS;rw[B?]at this;refine⟨vs (i*rz+j), ?_,h i e j p uj hj⟩;simp only[A?,K?];rw[Z_ o?];rfl
    exact absurd rfl df
 (cases h;cases hx with|iW a=>obtain⟨e1,e2⟩:=empty (.slice (some a) 0 0) (.inl ⟨_,_,rfl⟩);exact⟨e1,fun size _=>e2 size⟩);{rename_i β xm off n;split at h;rotate_left;cases h;rename_i qw sz es hb;split at h<;>cases h;rename_i jJ;cases hx with|row _ _ _ _ _ b ho jD hk hv hh=>rw[hb]at jD;cases jD;obtain⟨h1,h2⟩:=hh _ _ _ rfl jJ;have hln:((es.drop off).take n).length=n:=v?;cases hn:qw;rw[hn]at h2 hb;simp only[wH,if_false]at h2;obtain⟨a,rfl,oL,ay,Qa⟩:=h2;obtain⟨ab,ao,Dq⟩:=a;simp only at oL ay Qa;subst oL ay;refine⟨by rw[hln];simp[Builtin.lenOf],fun size hs=>?_⟩;by_cases Gw:n=0;subst Gw;have:(es.drop off).take 0=[]:=z?;rw[this];exact(empty _ (.inl ⟨_,_,rfl⟩)).2 size;(obtain⟨vs,elem,fz,g1,g2,g3,g4,g5,g6,g7,g8⟩:=hi.row hb;have OB:=Qa o?;subst OB;have oM:rz=size:=by rcases hs with h|h;exact h;rw[h]at hln;simp at hln;omega);(subst oM;have pW: ∀(i:Nat) e,((es.drop off).take n)[i]? =some e->i<n/\es[off+i]? =some e:=by intro i e VW;have:=(qL VW).1;have dm:i<n:=o?;rw[V? dm,h!]at VW;exact⟨dm,VW⟩);(have hmul:off*rz+n*rz<=es.length*rz:=by rw[<- N?];exact mulR _ h1);have hmul2:es.length*rz<=(ι β).cap*rz:=mulR _ g5;rw[hln];refine⟨((F? (n*rz)).map fun j=>(vs[off*rz+j]?).getD undef).toArray, ?_,z?,fun e he=>?_,fun i e j p VW hj=>?_,fun i e j p VW hj=>?_⟩;simp only[Builtin.firstCells];refine run_loadCells _ _ _ _ fun j hj=>?_;rw[gJ g1];have:off*rz+j<vs.size:=o?;simp[this];exact g6 e (q! (Y? he));exact g7 _ e j p (pW i e VW).2 hj;(obtain⟨dm,OK⟩:=pW i e VW;obtain⟨v,k1,k2⟩:=g8 _ e j p OK hj;have Sq:=(qL hj).1;have he:=g6 e (zc OK);have:(i+1)*rz<=n*rz:=mulR _ dm;rw[B?]at this;refine⟨v, ?_,k2⟩;have e1:off*rz+(i*rz+j)=(off+i)*rz+j:=by rw[N?];omega);simp only[A?,K?];rw[Z_ o?];simp only[D!,e1,k1,e!];rw[hn]at h2 hb;have df:es=[]:=hi.ru β _ hb;subst df;simp only[if_true]at h2;subst h2;have:(([]:List (List PV)).drop off).take n=[]:=z?;rw[this];obtain⟨e1,e2⟩:=empty (.slice none 0 0) (.inr ⟨_,rfl⟩);exact⟨e1,fun size _=>e2 size⟩}
 ·rename_i s;cases h;cases hx with
  |pv _ _ h=>cases h with
   |str l=>
    refine⟨by simp[Builtin.lenOf,ByteArray.size],fun size hs=>?_⟩;refine⟨(s.map fun b=>Value.int .u8 b.toNat).toArray, ?_, ?_, ?_⟩
    ·simp only[Builtin.firstCells,j_];have:(ByteArray.mk ⟨s⟩).extract 0 s.length=⟨⟨s⟩⟩:=by
      apply ByteArray.ext;simp
     rw[this];simp
    ·rcases hs with rfl|h
     ·simp
     have:s=[]:=by simpa using h
     subst this;simp
    rcases hs with rfl|h
    ·refine⟨fun e he=>?_,fun i e j p uj hj=>?_,fun i e j p uj hj=>?_⟩
     ·simp only[G?]at he;obtain⟨b,_,rfl⟩:=he;rfl
     ·simp only[K?,yZ]at uj;obtain⟨b,_,rfl⟩:=uj;cases j with
      |zero=>simp at hj;subst hj;rfl
      |succ j=>simp at hj
     simp only[K?,yZ]at uj;obtain⟨b,hb,rfl⟩:=uj;cases j with
     |zero=>
      simp at hj;subst hj;exact⟨.int .u8 b.toNat,by simp[hb],.int _ _⟩
     |succ j=>simp at hj
    have:s=[]:=by simpa using h
    subst this;simp[jb]
 cases h
end
section
variable [xn] {P:Program} {w:World} {H:qp} {ι:yv} {Im:Nat->Prop}
theorem YC(XS:Nat): ∀(r c:Nat),c<=XS+(XS+768) / 4->Builtin.growBy XS r c<=XS+(XS+768) / 4
 |0,c,h=>h
 |r+1,c,h=>by simp only[Builtin.growBy];split;exact h;exact YC XS r _ o?
theorem nextslicecap_le{zE cap:Nat}(h:cap<zE):Builtin.nextslicecap zE cap<=2*zE+192:=by unfold Builtin.nextslicecap;split;omega;split;omega;have:=YC zE 4 cap o?;omega
theorem Mg{zE bytes:Nat}(h:qi zE bytes=true){cap:Nat}(hc:cap<zE):
  Builtin.nextslicecap zE cap*bytes<=2^48/\(zE:Int)<=q?.max:=by
 unfold qi at h;simp only[zU,decide_eq_true_eq]at h;obtain⟨⟨h1,h2⟩,h3⟩:=h;refine⟨?_, ?_⟩
 ·have:=nextslicecap_le hc
  calc Builtin.nextslicecap zE cap*bytes<=(2*zE+192)*bytes:=mulR _ this
   _=2*(zE*bytes)+192*bytes:=by rw[N?,Nat.mul_assoc]
   _<=2^48:=o?
 have:q?.max=9223372036854775807:=by decide
 rw[this];omega
theorem jb.append{sz:Nat}{QX es2:List (List PV)}{DF DG rest:Array Value}(h1:jb w Im sz QX (DF[·]?))(h2:jb w Im sz es2 (DG[·]?))
  (hl:DF.size=QX.length*sz):jb w Im sz (QX++es2) ((DF++DG++rest)[·]?):=by
 have Hd: ∀(i:Nat) e(j:Nat) p,QX[i]? =some e->e[j]? =some p->i*sz+j<DF.size:=by intro i e j p hi hj;have xS:=(qL hi).1;have Sq:=(qL hj).1;have he:=h1.1 e (zc hi);have:(i+1)*sz<=QX.length*sz:=mulR _ xS;rw[B?]at this;omega
 have split: ∀(i:Nat) e,(QX++es2)[i]? =some e->(QX[i]? =some e)\/(QX.length<=i/\es2[i-QX.length]? =some e):=by intro i e h;rw[R!]at h;split at h;exact .inl h;exact .inr ⟨o?,h⟩
 refine⟨fun e he=>?_,fun i e j p hi hj=>?_,fun i e j p hi hj=>?_⟩;rcases p?.1 he with h|h;exact h1.1 e h;exact h2.1 e h;rcases split i e hi with h|⟨_,h⟩;exact h1.2.1 i e j p h hj;exact h2.2.1 _ e j p h hj;rcases split i e hi with h|⟨hle,h⟩;obtain⟨v,g1,g2⟩:=h1.2.2 i e j p h hj;refine⟨v, ?_,g2⟩;have:=Hd i e j p h hj;simp only[O'];rw[P! this];exact g1;obtain⟨v,g1,g2⟩:=h2.2.2 _ e j p h hj;refine⟨v, ?_,g2⟩;have e1:i*sz+j=DF.size+((i-QX.length)*sz+j):=by rw[hl];have:i=QX.length+(i-QX.length):=o?;(conv=>lhs;rw[this,N?]);omega
 have xS:(i-QX.length)*sz+j<DG.size:=by rcases N' ((i-QX.length)*sz+j) DG.size with h|h;exact h;have:DG[(i-QX.length)*sz+j]? =none:=g_ h;simp only[this]at g1;cases g1
 show(DF++DG++rest)[i*sz+j]? =some v;rw[e1,P! v?,D_ o?];simpa using g1
theorem mf.append{sz:Nat}{QX es2:List (List AV)}{DF DG rest:Array Value}(h1:mf w H ι Im sz QX (DF[·]?))(h2:mf w H ι Im sz es2 (DG[·]?))
  (hl:DF.size=QX.length*sz):mf w H ι Im sz (QX++es2) ((DF++DG++rest)[·]?):=by
 have Hd: ∀(i:Nat) e(j:Nat) p,QX[i]? =some e->e[j]? =some p->i*sz+j<DF.size:=by intro i e j p hi hj;have xS:=(qL hi).1;have Sq:=(qL hj).1;have he:=h1.1 e (zc hi);have:(i+1)*sz<=QX.length*sz:=mulR _ xS;rw[B?]at this;omega
 have split: ∀(i:Nat) e,(QX++es2)[i]? =some e->(QX[i]? =some e)\/(QX.length<=i/\es2[i-QX.length]? =some e):=by intro i e h;rw[R!]at h;split at h;exact .inl h;exact .inr ⟨o?,h⟩
 refine⟨fun e he=>?_,fun i e j p hi hj=>?_,fun i e j p hi hj=>?_⟩;rcases p?.1 he with h|h;exact h1.1 e h;exact h2.1 e h;rcases split i e hi with h|⟨_,h⟩;exact h1.2.1 i e j p h hj;exact h2.2.1 _ e j p h hj;rcases split i e hi with h|⟨hle,h⟩;obtain⟨v,g1,g2⟩:=h1.2.2 i e j p h hj;refine⟨v, ?_,g2⟩;have:=Hd i e j p h hj;simp only[O'];rw[P! this];exact g1;obtain⟨v,g1,g2⟩:=h2.2.2 _ e j p h hj;refine⟨v, ?_,g2⟩;have e1:i*sz+j=DF.size+((i-QX.length)*sz+j):=by rw[hl];have:i=QX.length+(i-QX.length):=o?;(conv=>lhs;rw[this,N?]);omega
 have xS:(i-QX.length)*sz+j<DG.size:=by rcases N' ((i-QX.length)*sz+j) DG.size with h|h;exact h;have:DG[(i-QX.length)*sz+j]? =none:=g_ h;simp only[this]at g1;cases g1
 show(DF++DG++rest)[i*sz+j]? =some v;rw[e1,P! v?,D_ o?];simpa using g1
def vI(w:World):World:={ w with drawn:=w.drawn+1 }
theorem pq{ts tx e:TypeId}{ti te oJ:TI}(Ki:zT P ts ti)(jF:ti.td= .slice e)(dy:zT P e te)(K0:zT P tx oJ)
  (ZR:(∃ e',oJ.td= .slice e')\/oJ.td= .string) (tt:TypeId) (base:Option Addr) (n cap k:Nat) (v:Value)
  (hlen:(Builtin.lenOf v).run P w= .ok k w) (MP:cap<n+k) (bk:qi (n+k) te.bytes=true)
  (NJ new:Array Value)
  (ho:(Builtin.firstCells te.size n (.slice base n cap)).run P (vI w)= .ok NJ (vI w))
  (hn:(Builtin.firstCells te.size k v).run P (vI w)= .ok new (vI w)):
  ∃(ff:Nat)(rest:Array Value),n+k<=ff/\rest.size=(ff-(n+k))*te.size/\
   (Builtin.append_ #[ts,tx] tt #[.slice base n cap,v]).run P w=
    .ok (.slice (some ⟨w.heap.size,0,none⟩) (n+k) ff) { vI w with heap:=w.heap.push (.cells (NJ++new++rest) e) }:=by
 obtain⟨i,z,q1,q2,q3,q4,q5,q6⟩:=dy.info;obtain⟨r1,r2⟩:=Mg bk MP;have hzl:z.cells.size=te.size:=by have:=(X7 (w:=w) (Im:=fun _=>True) q5).1;have:=dy.len;simp at*;omega
 let nc:Nat:=Question.cut (.appendCap (n+k) cap e) (w.tape w.drawn (.appendCap (n+k) cap e));have hnc:n+k<=nc:=by simp[nc,Question.cut]
 refine⟨nc,Builtin.zeroCells z.cells (nc-(n+k)),hnc,by simp[Builtin.zeroCells,hzl], ?_⟩;have hzero:(zeroValue e).run P (vI w)= .ok z (vI w):=by simp[zeroValue,bj q1,q4]
 have hno1: ¬(n+k<=cap):=o?;have hno3: ¬(Builtin.nextslicecap (n+k) cap*te.bytes>2^48):=o?;have hno2: ¬(((n+k:Nat):Int)>q?.max):=o?;have htxx:P.underlying tx=some .string\/ ∃e',P.underlying tx=some (.slice e'):=by rcases ZR with ⟨e',h⟩|h;exact .inr ⟨_,K0.slice h⟩;exact .inl (K0.string h)
 have VT:(choose (Question.appendCap (n+k) cap e)).run P w= .ok nc (vI w):=by simp[choose,C_,Question.forced,nc,vI]
 have l5: ∀w',(typeInfo e).run P w' = .ok i w' :=fun w' =>bj q1;rw[<- q3]at hno3;unfold Builtin.append_;rcases htxx with hd|⟨e',hd⟩;all_goals
  simp only[A?,a?,i?,kf,qy (Ki.slice jF),mb,dy.size,qy hd,W?,hlen,
   wH,if_false,hno1,l5,hno2,false_and,hno3,VT,run_askRoom,ho,q0v,if_true,hn,hzero,newRow,run_newObj]
  rfl
theorem run_append_fits{ts tx e:TypeId}{ti te oJ:TI}(Ki:zT P ts ti)(jF:ti.td= .slice e)(dy:zT P e te)(K0:zT P tx oJ)
  (ZR:(∃ e',oJ.td= .slice e')\/oJ.td= .string) (tt:TypeId) (base:Option Addr) (n cap k:Nat) (v:Value)
  (hlen:(Builtin.lenOf v).run P w= .ok k w) (hle:n+k<=cap) (new:Array Value) (hnew:(Builtin.firstCells te.size k v).run P w= .ok new w) (w' :World)
  (Wo: ∀a,base=some a->(storeCells (a.add (n*te.size)) new.toList).run P w= .ok () w') (YG:base=none->w' =w):
  (Builtin.append_ #[ts,tx] tt #[.slice base n cap,v]).run P w= .ok (.slice base (n+k) cap) w' :=by
 have htxx:P.underlying tx=some .string\/ ∃e',P.underlying tx=some (.slice e'):=by rcases ZR with ⟨e',h⟩|h;exact .inr ⟨_,K0.slice h⟩;exact .inl (K0.string h)
 unfold Builtin.append_;rcases htxx with hd|⟨e',hd⟩;all_goals
  simp only[A?,a?,i?,kf,qy (Ki.slice jF),mb,dy.size,qy hd,W?,hlen,
   wH,if_false,hle,q0v,if_true,hnew]
  cases base with
  |none=>rw[YG rfl];rfl
  |some a=>simp only[kf,Wo a rfl,mb,W?]
theorem Jj{ts tx e:TypeId}{ti te oJ:TI}(Ki:zT P ts ti)(jF:ti.td= .slice e)(dy:zT P e te)(K0:zT P tx oJ)
  (ZR:(∃ e',oJ.td= .slice e')\/oJ.td= .string) (tt:TypeId) (hi:zf w H ι Im) {y:AV} {vy:Value} (hy:RA w H ι Im y vy)
  {rz:Nat} {src:List (List PV)} (rJ:yN y H=some (rz,src)) (ml:rz=te.size\/src=[]) (jZ:src≠[]) (bk:qi src.length te.bytes=true)
  (base:Option Addr):
  ∃(ff:Nat)(w' :World)(cs:Array Value),src.length<=ff/\(w'.heap=w.heap.push (.cells cs e)/\w'.os=w.os/\w'.output=w.output)/\cs.size=ff*te.size/\jb w Im te.size src (cs[·]?)/\
   (Builtin.append_ #[ts,tx] tt #[.slice base 0 0,vy]).run P w= .ok (.slice (some ⟨w.heap.size,0,none⟩) src.length ff) w' :=by
 obtain⟨l1,l2⟩:=tR (P:=P) hi hy rJ;have tJ:0<src.length:=M?.2 jZ;have hw:(vI w).heap=w.heap:=rfl;obtain⟨new,k1,k2,k3⟩:=(tR (P:=P) (hi.bV hw ⟨rfl,rfl⟩) (hy.bV hw ⟨rfl,rfl⟩ hi) rJ).2 te.size ml;obtain⟨nc,rest,g1,g3,g4⟩:=pq (w:=w) Ki jF dy K0 ZR tt base 0 0 src.length vy l1 o? (by simpa using bk) #[] new
  (by
   cases base with
   |none=>simp[Builtin.firstCells]
   |some a=>simp[Builtin.firstCells,loadCells,loadCellsFrom]) k1
 have JY:jb (vI w) Im te.size [] (((#[]:Array Value))[·]?):=by simp[jb]
 have ep:=jb.append (rest:=rest) JY k3 z?;refine⟨nc, { vI w with heap:=w.heap.push (.cells (new++rest) e) },_,o?,⟨rfl,rfl,rfl⟩, ?_, ?_,by simpa using g4⟩;simp only[N_,k2,g3];simp only[O?,q0f];rw[<- N?];congr 1;omega;have:=ep.mono (w' :=w) (kh:=Im) (fun _ h=>h) (fun b _=>by rw[hw]);simpa using this
theorem take_all{α:Type}(es src:List α){n:Nat}(h:n=es.length):es.take n++src++es.drop (n+src.length)=es++src:=by subst h;simp[n_]
theorem Qh(hi:zf w H ι Im){x:AV}{v:Value}(hx:RA w H ι Im x v){rz:Nat}{src:List (List AV)}(h:lS x H=some (rz,src)):
  (Builtin.lenOf v).run P w= .ok src.length w/\
  ∃cs,(Builtin.firstCells rz src.length v).run P w= .ok cs w/\cs.size=src.length*rz/\mf w H ι Im rz src (cs[·]?):=by unfold lS at h;split at h;rotate_left;cases h;rename_i β xm off n;split at h;rotate_left;cases h;rename_i sz es hb;split at h<;>cases h;rename_i jJ;cases hx with|row _ _ _ _ _ b ho jD hk hv hh=>rw[hb]at jD;cases jD;obtain⟨h1,h2⟩:=hh _ _ _ rfl jJ;have hln:((es.drop off).take n).length=n:=v?;simp only[wH,if_false]at h2;obtain⟨a,rfl,oL,ay,Qa⟩:=h2;obtain⟨ab,ao,Dq⟩:=a;simp only at oL ay Qa;subst oL ay;refine⟨by rw[hln];simp[Builtin.lenOf], ?_⟩;by_cases Gw:n=0;subst Gw;refine⟨#[], ?_,z?,by simp[mf]⟩;simp[Builtin.firstCells,loadCells,loadCellsFrom];(obtain⟨vs,elem,fz,g1,g2,g3,g4,g5,g6,g7,g8⟩:=hi.mr hb;have OB:=Qa o?;subst OB;have pW: ∀(i:Nat) e,((es.drop off).take n)[i]? =some e->i<n/\es[off+i]? =some e:=by intro i e VW;have:=(qL VW).1;have dm:i<n:=o?;rw[V? dm,h!]at VW;exact⟨dm,VW⟩);(have hmul:off*rz+n*rz<=es.length*rz:=by rw[<- N?];exact mulR _ h1);have hmul2:es.length*rz<=(ι β).cap*rz:=mulR _ g5;rw[hln];refine⟨((F? (n*rz)).map fun j=>(vs[off*rz+j]?).getD undef).toArray, ?_,z?,fun e he=>?_,fun i e j p VW hj=>?_,fun i e j p VW hj=>?_⟩;simp only[Builtin.firstCells];refine run_loadCells _ _ _ _ fun j hj=>?_;rw[gJ g1];have:off*rz+j<vs.size:=o?;simp[this];exact g6 e (q! (Y? he));exact g7 _ e j p (pW i e VW).2 hj;(obtain⟨dm,OK⟩:=pW i e VW;obtain⟨v,k1,k2⟩:=g8 _ e j p OK hj;have Sq:=(qL hj).1;have he:=g6 e (zc OK);have:(i+1)*rz<=n*rz:=mulR _ dm;rw[B?]at this;refine⟨v, ?_,k2⟩;have e1:off*rz+(i*rz+j)=(off+i)*rz+j:=by rw[N?];omega);simp only[A?,K?];rw[Z_ o?];simp only[D!,e1,k1,e!]
theorem H9{ts tx e:TypeId}{ti te oJ:TI}(Ki:zT P ts ti)(jF:ti.td= .slice e)(dy:zT P e te)(K0:zT P tx oJ)
  (ZR:(∃ e',oJ.td= .slice e')\/oJ.td= .string) (tt:TypeId) (hi:zf w H ι Im) {y:AV} {vy:Value} (hy:RA w H ι Im y vy)
  {src:List (List AV)} (rJ:lS y H=some (te.size,src)) (jZ:src≠[]) (bk:qi src.length te.bytes=true):
  ∃(ff:Nat)(w' :World)(cs:Array Value),src.length<=ff/\(w'.heap=w.heap.push (.cells cs e)/\w'.os=w.os/\w'.output=w.output)/\cs.size=ff*te.size/\mf w H ι Im te.size src (cs[·]?)/\
   (Builtin.append_ #[ts,tx] tt #[.slice none 0 0,vy]).run P w= .ok (.slice (some ⟨w.heap.size,0,none⟩) src.length ff) w' :=by
 obtain⟨l1,l2⟩:=Qh (P:=P) hi hy rJ;have tJ:0<src.length:=M?.2 jZ;have hw:(vI w).heap=w.heap:=rfl;have uj:=hi.bV hw ⟨rfl,rfl⟩;obtain⟨new,k1,k2,k3⟩:=(Qh (P:=P) uj (hy.bV hw ⟨rfl,rfl⟩ hi) rJ).2;obtain⟨nc,rest,g1,g3,g4⟩:=pq (w:=w) Ki jF dy K0 ZR tt none 0 0 src.length vy l1 o? (by simpa using bk) #[] new (by simp[Builtin.firstCells]) k1;have JY:mf (vI w) H ι Im te.size [] (((#[]:Array Value))[·]?):=by simp[mf]
 have ep:=mf.append (rest:=rest) JY k3 z?;refine⟨nc, { vI w with heap:=w.heap.push (.cells (new++rest) e) },_,o?,⟨rfl,rfl,rfl⟩, ?_, ?_,by simpa using g4⟩;simp only[N_,k2,g3];simp only[O?,q0f];rw[<- N?];congr 1;omega;have:=ep.mono (w' :=w) (H' :=H) (ι' :=ι) (kh:=Im) uj (vj.bV (w:=vI w) (w' :=w) rfl ⟨rfl,rfl⟩);simpa using this
theorem B4{ts tx e:TypeId}{ti te oJ:TI}(Ki:zT P ts ti)(jF:ti.td= .slice e)(dy:zT P e te)(K0:zT P tx oJ)
  (ZR:(∃ e',oJ.td= .slice e')\/oJ.td= .string) (tt:TypeId) (hi:zf w H ι Im) {nx:Nat} {X:Nat->Prop} (jf:Bd X H nx)
  {x y:AV} {vx vy:Value} (hx:RA w H ι Im x vx) (hy:RA w H ι Im y vy) {r:my} (hr:mB te x y H nx=some r) (hX: ∀γ,X γ->r.2.2<=γ):
  ∃u w',(Builtin.append_ #[ts,tx] tt #[vx,vy]).run P w= .ok u w' /\tA X w H ι Im nx r u w' :=by unfold mB at hr;cases hr
theorem Pp{ts tx e:TypeId}{ti te oJ:TI}(Ki:zT P ts ti)(jF:ti.td= .slice e)(dy:zT P e te)(K0:zT P tx oJ)
  (ZR:(∃ e',oJ.td= .slice e')\/oJ.td= .string) (tt:TypeId) (hi:zf w H ι Im) {nx:Nat} {X:Nat->Prop} (jf:Bd X H nx)
  {x y:AV} {vx vy:Value} (hx:RA w H ι Im x vx) (hy:RA w H ι Im y vy) {r:my} (hr:hZ te x y H nx=some r) (hX: ∀γ,X γ->r.2.2<=γ):
  ∃u w',(Builtin.append_ #[ts,tx] tt #[vx,vy]).run P w= .ok u w' /\tA X w H ι Im nx r u w' :=by
 unfold hZ at hr;split at hr
 ·exact B4 Ki jF dy K0 ZR tt hi jf hx hy hr hX
 rename_i rz src rJ;split at hr;rotate_left
 ·cases hr
 rename_i hc;obtain⟨ml,tJ⟩:=hc;obtain⟨l1,l2⟩:=tR (P:=P) hi hy rJ;obtain⟨cs,f1,f2,f3⟩:=l2 te.size ml;have none0: ∀(base:Option Addr),RA w H ι Im x (.slice base 0 0)->src=[]->
   ∃u w',(Builtin.append_ #[ts,tx] tt #[.slice base 0 0,vy]).run P w= .ok u w' /\tA X w H ι Im nx (x,[],nx) u w' :=by
  intro base hxv hs;subst hs;refine⟨_,w,run_append_fits Ki jF dy K0 ZR tt base 0 0 0 vy l1 (ju _) cs f1 w (fun a ha=>?_) (fun _=>rfl),tA.pure hi jf hxv⟩;have:cs.toList=[]:=by
   have:cs.size=0:=by simpa using f2
   simpa using this
  rw[this];rfl
 have fresh: ∀(base:Option Addr),RA w H ι Im x (.slice base 0 0)->
   ki te x src nx nx (nx+1)=some r->
   ∃u w',(Builtin.append_ #[ts,tx] tt #[.slice base 0 0,vy]).run P w= .ok u w' /\tA X w H ι Im nx r u w' :=by
  intro base hxv hr;unfold ki at hr;split at hr
  ·cases hr;exact none0 base hxv rfl
  split at hr<;>cases hr;rename_i bk;obtain⟨nc,w',cs',g1,g2,g3,g4,g5⟩:=Jj Ki jF dy K0 ZR tt hi hy rJ ml z? bk base;exact⟨_,w',g5,Kn hi jf (aQ hX) te.size _ cs' e (0,0) nc w' g2.1 g2.2 (ky _) tJ g3 g1 g4⟩
 split at hr
 ·cases hx with
  |pv _ _ h=>cases h with
   |aP=>exact fresh none (.pv _ _ (.aP _)) hr
 ·cases hx with
  |iW a=>exact fresh _ (.iW a) hr
 ·rename_i β xm off n;split at hr
  ·rename_i sz es hb;split at hr;rotate_left
   ·cases hr
   rename_i hc;obtain⟨jJ,oX,hn⟩:=hc;subst oX hn;have hxx:=hx;cases hx with
   |row _ _ _ _ _ b ho jD hk hv hh=>
   rw[hb]at jD;cases jD;obtain⟨h1,h2⟩:=hh _ _ _ rfl jJ;simp only[if_true]at h2;subst h2;have df:es=[]:=hi.ru β _ hb;subst df;unfold ki at hr;split at hr
   ·cases hr;exact none0 none hxx rfl
   rename_i a0 l0;split at hr<;>cases hr;rename_i bk;obtain⟨nc,w',cs',g1,g2,g3,g4,g5⟩:=Jj Ki jF dy K0 ZR tt hi hy rJ ml z? bk none;refine⟨_,w',g5,kl ι β ⟨w.heap.size,nc,[]⟩, ?_⟩;have key:=zf.put (JZ:=noO hb rfl) hi (w' :=w') β (.row false te.size (a0::l0)) ⟨w.heap.size,nc,[]⟩ (fun x hx=>by rw[hb]at hx;cases hx;simp[jc,qJ.sh,Pl.kR])
    ⟨by rw[g2.1];simp,g2.2⟩ (fun b' jD _=>by rw[g2.1];simp[Q_,M' jD]) (fun _=> .inl (ju _)) (fun he=>by
     have hk: ∀b,Im b->w'.heap[b]? =w.heap[b]? :=fun b hb=>he.ZS hi b hb
     obtain⟨k1,k2,k3⟩:=g4.mono he.im hk
     exact⟨cs',e,(0,0),by simp[g2],ky _,by simp[g3],tJ,by simpa using g1,k1,k2,k3⟩)
   refine⟨key.1,key.2, ?_,ju _,u7 jf (ju _) (jf β _ hb)⟩;have hg:(za [(β,qJ.row false te.size (a0::l0))] H).get β=some (.row false te.size (a0::l0)):=by simp[za,qp.zm]
   refine .row β _ 0 _ _ _ rfl hg (fun _=>⟨_,_,_,rfl⟩) (fun _ _ _ e=>by cases e;exact ju _) fun _ _ _ e _=>?_;cases e;refine⟨z?, ?_⟩;simp only[wH,if_false];exact⟨⟨w.heap.size,0,none⟩,z?,rfl,z?,fun _=>z?⟩
  ·rename_i sz es hb;split at hr;rotate_left
   ·cases hr
   rename_i hc;obtain⟨jJ,hszz,oX,bk⟩:=hc;subst oX hszz;have hr' :r=(.row β (es.take n++src++es.drop (n+src.length)).length 0 (n+src.length),[(β,.row false te.size (es.take n++src++es.drop (n+src.length)))],nx):=by
    split at hr<;>cases hr
    ·rename_i hn;rw[take_all es src hn,hn];simp
    rfl
   subst hr';clear hr;cases hx with
   |row _ _ _ _ _ b ho jD hk hv hh=>
   rw[hb]at jD;cases jD;obtain⟨h1,h2⟩:=hh _ _ _ rfl jJ;simp only[wH,if_false]at h2;obtain⟨a,rfl,oL,ay,Qa⟩:=h2;obtain⟨ab,ao,Dq⟩:=a;simp only at oL ay Qa;subst oL ay;obtain⟨vs,elem,fz,g1,g2,g3,g4,g5,g6,g7,g8⟩:=hi.row hb;have hes' :(es.take n++src++es.drop (n+src.length)).length=max es.length (n+src.length):=by
    simp;omega
   by_cases rI:n+src.length<=(ι β).cap
   ·
    have OB:src≠[]->ao=0:=fun jZ=>by
     have:=M?.2 jZ;have:=Qa o?;omega
    have Wl: ∀x∈cs.toList,dz x=true:=by
     intro x hx;obtain⟨m,hm⟩:=jI hx;have Wi:m<src.length*te.size:=by
      have:=(qL hm).1;simp at this;omega
     have hdiv:m / te.size<src.length:=L' (by rwa[Y!]);have hmod:m % te.size<te.size:=q1h _ tJ;obtain⟨e0,Gu⟩: ∃e0,src[m / te.size]? =some e0:=⟨src[m / te.size],z?⟩;have MO:=f3.1 e0 (zc Gu);obtain⟨p0,hp0⟩: ∃p0,e0[m % te.size]? =some p0:=⟨e0[m % te.size]'(o?),z?⟩;obtain⟨v0,q1,q2⟩:=f3.2.2 _ e0 _ p0 Gu hp0;have:m / te.size*te.size+m % te.size=m:=by rw[Y!];exact q0w m te.size
     simp only[this]at q1;have:x=v0:=by
      have h0:cs[m]? =some x:=by simpa using hm
      rw[h0]at q1;exact Option.some.inj q1
     subst this;exact q2.dz (f3.2.1 _ e0 _ p0 Gu hp0)
    have hmul:n*te.size+src.length*te.size<=vs.size:=by
     rw[g3,<- N?];exact mulR _ rI
    have Wo: ∃w',(storeCells ⟨(ι β).b,ao+n*te.size,none⟩ cs.toList).run P w=q08 () w' /\(w'.heap.size=w.heap.size/\w'.os=w.os/\w'.output=w.output)/\(∀ b',b' ≠(ι β).b->w'.heap[b']? =w.heap[b']?)/\
      ∃ee:Array Value,w'.heap[(ι β).b]? =some (.cells ee elem fz)/\ee.size=vs.size/\ ∀k,ee[k]? =if n*te.size<=k/\k<n*te.size+cs.size then cs[k-n*te.size]? else vs[k]? :=by
     by_cases hs:src=[]
     ·have hcs0:cs.size=0:=by rw[f2,hs];simp
      have Xi:cs.toList=[]:=by simpa using hcs0
      refine⟨w,by rw[Xi];rfl,⟨rfl,rfl,rfl⟩,fun _ _=>rfl,vs,g1,rfl,fun k=>?_⟩;rw[if_neg o?]
     have:=OB hs;subst this;obtain⟨w',q1,q2,q3,ee,q4,q5,q6⟩:=uP (P:=P) (ι β).b (n*te.size) elem fz cs.toList 0 w vs g1 g2 (by simp[f2];omega) Wl;refine⟨w',by simpa using q1,q2,q3,ee,q4,q5,fun k=>?_⟩;rw[q6 k];simp
    obtain⟨w',q1,q2,q3,ee,q4,q5,q6⟩:=Wo;have T6:=run_append_fits (w' :=w') Ki jF dy K0 ZR tt (some ⟨(ι β).b,ao,none⟩) n ((ι β).cap-0) src.length vy l1 o? cs f1
     (fun a ha=>by cases ha;rw[add_plain];exact q1) (fun h=>by cases h)
    refine⟨_,w',T6,kl ι β (ι β), ?_⟩;have key:=zf.put (JZ:=noO hb rfl) hi (w' :=w') β (.row false te.size (es.take n++src++es.drop (n+src.length))) (ι β)
     (fun x hx=>by
      rw[hb]at hx
      cases hx
      simp only[jc,qJ.sh]
      exact⟨o?,fun _=>⟨z?,fun _=>⟨z?,Pl.J0 _⟩⟩⟩)
     ⟨o?,q2.2⟩ (fun b' _ jZ=>q3 b' (fun e=>jZ _ hb rfl e.symm)) (fun _=> .inr ⟨_,hb,rfl,rfl⟩) (fun mE=>by
      have hw: ∀b,Im b->w'.heap[b]? =w.heap[b]? :=fun b hb=>mE.ZS hi b hb
      have pW: ∀(i:Nat) e0,(es.take n++src++es.drop (n+src.length))[i]? =some e0->
        (n<=i/\i<n+src.length/\src[i-n]? =some e0)\/(¬ (n<=i/\i<n+src.length)/\es[i]? =some e0):=by
       intro i e0 h
       by_cases hn:n+src.length<=es.length
       ·rw[kX es src n i hn]at h
        split at h
        ·rename_i hc
         exact .inl ⟨hc.1,hc.2,h⟩
        rename_i hc
        exact .inr ⟨hc,h⟩
       rw[n_ o?,List.append_nil,R!]at h
       have htl:(es.take n).length=n:=v?
       rw[htl]at h
       split at h
       ·rename_i hc
        rw[V? hc]at h
        exact .inr ⟨o?,h⟩
       rename_i hc
       have:=(qL h).1
       exact .inl ⟨o?,o?,h⟩
      refine⟨ee,elem,fz,by simpa using q4,by rw[q5];exact g2,by simp[q5,g3],tJ,by simp only[vi];omega, ?_, ?_, ?_⟩
      ·intro e0 Gu
       obtain⟨i,uj⟩:=jI Gu
       rcases pW i e0 uj with ⟨_,_,h⟩|⟨_,h⟩
       ·exact f3.1 e0 (zc h)
       exact g6 e0 (zc h)
      ·intro i e0 j p uj hj
       rcases pW i e0 uj with ⟨_,_,h⟩|⟨_,h⟩
       ·exact f3.2.1 _ e0 j p h hj
       exact g7 _ e0 j p h hj
      intro i e0 j p uj hj
      have Sq:=(qL hj).1
      rw[q6]
      rcases pW i e0 uj with ⟨k1,k2,h⟩|⟨k1,h⟩
      ·obtain⟨v0,w1,w2⟩:=f3.2.2 _ e0 j p h hj
       have MO:=f3.1 e0 (zc h)
       have e1:i*te.size+j-n*te.size=(i-n)*te.size+j:=by
        have:i=n+(i-n):=o?
        conv=>lhs;rw[this,N?]
        omega
       have e2:n*te.size<=i*te.size:=mulR _ k1
       have e3:(i+1)*te.size<=(n+src.length)*te.size:=mulR _ k2
       rw[B?,N?]at e3
       rw[if_pos ⟨o?,by rw[f2];omega⟩,e1]
       exact⟨v0,w1,w2.mono mE.im hw⟩
      obtain⟨v0,w1,w2⟩:=g8 _ e0 j p h hj
      have MO:=g6 e0 (zc h)
      have XI: ¬(n*te.size<=i*te.size+j/\i*te.size+j<n*te.size+cs.size):=by
       rw[f2]
       by_cases xS:i<n
       ·have:(i+1)*te.size<=n*te.size:=mulR _ xS
        rw[B?]at this
        omega
       have:(n+src.length)*te.size<=i*te.size:=mulR _ o?
       rw[N?]at this
       omega
      rw[if_neg XI]
      exact⟨v0,w1,w2.mono mE.im hw⟩)
    refine⟨key.1,key.2, ?_,ju _,u7 jf (ju _) (jf β _ hb)⟩;have hg:(za [(β,qJ.row false te.size (es.take n++src++es.drop (n+src.length)))] H).get β=some (.row false te.size (es.take n++src++es.drop (n+src.length))):=by simp[za,qp.zm]
    refine .row β _ 0 _ _ _ rfl hg (fun _=>⟨_,_,_,rfl⟩) (fun _ _ _ e=>by cases e;exact ju _) fun _ _ _ e _=>?_;cases e;refine⟨o?, ?_⟩;simp only[wH,if_false];refine⟨⟨(ι β).b,ao,none⟩,z?,rfl,z?,fun hc=>?_⟩;simp only[vi]at hc;have:=Qa hc;simpa using this
   have oX:es.drop (n+src.length)=[]:=n_ o?;have hw:(vI w).heap=w.heap:=rfl;have hself:yN (.row β xm 0 n) H=some (te.size,es.take n):=by
    simp[yN,hb,jJ]
   have hxx:RA w H ι Im (.row β xm 0 n) (.slice (some ⟨(ι β).b,ao,none⟩) n ((ι β).cap-0)):=
    .row β xm 0 n _ _ rfl hb hk hv hh
   have htl:(es.take n).length=n:=v?;obtain⟨NJ,k1,k2,k3⟩:=(tR (P:=P) (hi.bV hw ⟨rfl,rfl⟩) (hxx.bV hw ⟨rfl,rfl⟩ hi) hself).2 te.size (.inl rfl);obtain⟨new,m1,m2,m3⟩:=(tR (P:=P) (hi.bV hw ⟨rfl,rfl⟩) (hy.bV hw ⟨rfl,rfl⟩ hi) rJ).2 te.size ml;rw[htl]at k1 k2;obtain⟨nc,rest,r1,r2,r3⟩:=pq (w:=w) Ki jF dy K0 ZR tt (some ⟨(ι β).b,ao,none⟩) n ((ι β).cap-0) src.length vy l1 o? bk NJ new k1 m1;have ep:=jb.append (rest:=rest) k3 m3 (by rw[k2,htl]);have hrow' :=ep.mono (w' :=w) (kh:=Im) (fun _ h=>h) (fun b _=>by rw[hw]);have hes2:es.take n++src++es.drop (n+src.length)=es.take n++src:=by rw[oX];simp
   rw[hes2]at hes' |-;refine⟨_,_,r3,kl ι β ⟨w.heap.size,nc,[]⟩, ?_⟩;have OO:(es.take n++src).length=n+src.length:=v?;have key:=zf.put (JZ:=noO hb rfl) hi (w' :={ vI w with heap:=w.heap.push (.cells (NJ++new++rest) e) }) β (.row false te.size (es.take n++src)) ⟨w.heap.size,nc,[]⟩
    (fun x hx=>by
     rw[hb]at hx
     cases hx
     simp only[jc,qJ.sh]
     exact⟨o?,fun h=>o?⟩)
    ⟨z?,rfl,rfl⟩ (fun b' jD _=>by simp[Q_,M' jD]) (fun _=> .inl (ju _)) (fun he=>by
     have hk: ∀b,Im b->_:=fun b hb=>he.ZS hi b hb
     obtain⟨p1,p2,p3⟩:=hrow'.mono he.im hk
     refine⟨NJ++new++rest,e,(0,0),z?,ky _, ?_,tJ,by simp only[vi];omega,p1,p2,p3⟩
     simp only[vi,N_,k2,m2,r2,<- N?]
     congr 1
     omega)
   refine⟨key.1,key.2, ?_,ju _,u7 jf (ju _) (jf β _ hb)⟩;have hg:(za [(β,qJ.row false te.size (es.take n++src))] H).get β=some (.row false te.size (es.take n++src)):=by simp[za,qp.zm]
   refine .row β _ 0 _ _ _ rfl hg (fun _=>⟨_,_,_,rfl⟩) (fun _ _ _ e=>by cases e;exact ju _) fun _ _ _ e _=>?_;cases e;refine⟨o?, ?_⟩;simp only[wH,if_false];exact⟨⟨w.heap.size,0,none⟩,z?,rfl,z?,fun _=>z?⟩
  cases hr
 cases hr
end
section
variable [xn] {P:Program} {w:World} {H:qp} {ι:yv} {Im:Nat->Prop}
theorem ZV(a:Addr): ∀(n i:Nat)(acc cs:Array Value),(loadCellsFrom a i n acc).run P w= .ok cs w->
  ∃l:List Value,l.length=n/\cs.toList=acc.toList++l/\ ∀m,m<=n->(loadCellsFrom a i m acc).run P w= .ok ⟨acc.toList++l.take m⟩ w
 |0,i,acc,cs,h=>by simp only[loadCellsFrom,W?,Result.ok.injEq,and_true]at h;subst h;refine⟨[],rfl,z?,fun m hm=>?_⟩;have:m=0:=o?;subst this;simp[loadCellsFrom]
 |n+1,i,acc,cs,h=>by (obtain⟨v,hv⟩: ∃v,(load (a.add i)).run P w= .ok v w:=by simp only[loadCellsFrom,kf]at h;rw[run_load]at h |-;split at h;exact⟨_,rfl⟩;split at h;exact⟨_,rfl⟩;cases h);simp only[loadCellsFrom,kf,hv,mb]at h;obtain⟨l,h1,h2,h3⟩:=ZV a n (i+1) (acc.push v) cs h;refine⟨v::l,by simp[h1],by simp[h2],fun m hm=>?_⟩;cases m with|zero=>simp[loadCellsFrom]|succ m=>have:=h3 m o?;simp only[loadCellsFrom,kf,hv,mb,this];simp
theorem JS{size n k:Nat}{v:Value}{cs:Array Value}(h:(Builtin.firstCells size n v).run P w= .ok cs w)(hk:k<=n)(hl:cs.size=n*size):
  (Builtin.firstCells size k v).run P w= .ok ⟨cs.toList.take (k*size)⟩ w:=by have N6:k*size<=n*size:=mulR _ hk;cases v with|slice base a c=>(cases base with|none=>simp only[Builtin.firstCells,Sem.run_pure,Result.ok.injEq,and_true]at h |-;subst h;simp|some ad=>simp only[Builtin.firstCells,loadCells]at h |-;obtain⟨l,h1,h2,h3⟩:=ZV ad (n*size) 0 #[] cs h;rw[h3 _ N6];simp[h2])|string s=>simp only[Builtin.firstCells,Sem.run_pure,Result.ok.injEq,and_true]at h |-;subst h;simp at hl;by_cases hk0:k=0;subst hk0;simp;(have ml:size=1\/min n s.size=0:=by rcases Nat.lt_or_ge size 2 with h|h;rcases Nat.lt_or_ge size 1 with h' |h';right;have:size=0:=o?;subst this;omega;left;omega;have:=Nat.mul_le_mul_left n h;right;omega);rcases ml with rfl|h0;apply Array.ext';simp[List.take_take,Nat.min_eq_left hk];(have:s.size=0:=o?;apply Array.ext';have hs:s.data.toList=[]:=by cases s with|mk d=>simpa[ByteArray.size]using this);simp[hs]|_=>simp[Builtin.firstCells]at h
theorem jb.take{sz k:Nat}{es:List (List PV)}{cs:Array Value}(h:jb w Im sz es (cs[·]?)):jb w Im sz (es.take k) ((⟨cs.toList.take (k*sz)⟩:Array Value)[·]?):=by refine⟨fun e he=>h.1 e (Y? he),fun i e j p hi hj=>?_,fun i e j p hi hj=>?_⟩;have xS:=(qL hi).1;simp at xS;rw[V? o?]at hi;exact h.2.1 i e j p hi hj;have xS:=(qL hi).1;simp at xS;rw[V? o?]at hi;obtain⟨v,h1,h2⟩:=h.2.2 i e j p hi hj;refine⟨v, ?_,h2⟩;have Sq:=(qL hj).1;have he:=h.1 e (zc hi);have:(i+1)*sz<=k*sz:=mulR _ o?;rw[B?]at this;simp only[A?];rw[V? o?];simpa using h1
theorem IG{ts e:TypeId}{ti te:TI}(Ki:zT P ts ti)(jF:ti.td= .slice e)(dy:zT P e te){cu:Array TypeId}(h0:cu[0]? =some ts)(tt:TypeId)
  (hi:zf w H ι Im) {nx:Nat} {X:Nat->Prop} (jf:Bd X H nx) {x y:AV} {vx vy:Value} (hx:RA w H ι Im x vx) (hy:RA w H ι Im y vy) {r:my} (hr:Zz te x y H nx=some r):
  ∃u w',(Builtin.copy_ cu tt #[vx,vy]).run P w= .ok u w' /\tA X w H ι Im nx r u w' :=by
 unfold Zz at hr;split at hr
 ·cases hr
 rename_i rz Vb rJ;split at hr;rotate_left
 ·cases hr
 rename_i β xm off n;split at hr;rotate_left
 ·cases hr
 rename_i sz es hb;split at hr<;>cases hr;rename_i hc;obtain⟨jJ,hszz,ml⟩:=hc;subst hszz;obtain⟨l1,cs0,f1',f2',f3'⟩:(Builtin.lenOf vy).run P w= .ok Vb.length w/\ ∃cs,(Builtin.firstCells te.size Vb.length vy).run P w= .ok cs w/\cs.size=Vb.length*te.size/\jb w Im te.size Vb (cs[·]?):=by
  obtain⟨a,b⟩:=tR (P:=P) hi hy rJ;exact⟨a,b te.size ml⟩
 generalize hsrc' :Vb.take n=src;have hk:src.length=min Vb.length n:=by rw[<- hsrc'];simp[Nat.min_comm]
 have f1:=JS f1' (show src.length<=Vb.length by omega) f2';have f3:jb w Im te.size src ((⟨cs0.toList.take (src.length*te.size)⟩:Array Value)[·]?):=by
  have:=f3'.take (k:=src.length);have e:Vb.take src.length=src:=by
   rw[<- hsrc',List.take_eq_take_iff];simp
  rwa[e]at this
 have f2:(⟨cs0.toList.take (src.length*te.size)⟩:Array Value).size=src.length*te.size:=by
  have:src.length*te.size<=Vb.length*te.size:=mulR _ o?;show(cs0.toList.take _).length=_;rw[List.length_take];have h2:cs0.toList.length=Vb.length*te.size:=f2';rw[h2];exact Nat.min_eq_left this
 generalize (⟨cs0.toList.take (src.length*te.size)⟩:Array Value)=cs at f1 f2 f3;have hxx:=hx;cases hx with
 |row _ _ _ _ _ b ho jD Zs hv hh=>
 rw[hb]at jD;cases jD;obtain⟨h1,h2⟩:=hh _ _ _ rfl jJ;simp only[wH,if_false]at h2;obtain⟨a,rfl,oL,ay,Qa⟩:=h2;obtain⟨ab,ao,Dq⟩:=a;simp only at oL ay Qa;subst oL ay;obtain⟨vs,elem,fz,g1,g2,g3,tJ,g5,g6,g7,g8⟩:=hi.row hb;have hsn:src.length<=n:=o?;have OB:src≠[]->ao=off*te.size:=fun jZ=>by
  have:=M?.2 jZ;exact Qa o?
 have Wl: ∀x∈cs.toList,dz x=true:=by
  intro x hx;obtain⟨m,hm⟩:=jI hx;have Wi:m<src.length*te.size:=by
   have:=(qL hm).1;simp at this;omega
  have hdiv:m / te.size<src.length:=L' (by rwa[Y!]);have hmod:m % te.size<te.size:=q1h _ tJ;obtain⟨e0,Gu⟩: ∃e0,src[m / te.size]? =some e0:=⟨src[m / te.size],z?⟩;have MO:=f3.1 e0 (zc Gu);obtain⟨p0,hp0⟩: ∃p0,e0[m % te.size]? =some p0:=⟨e0[m % te.size]'(o?),z?⟩;obtain⟨v0,q1,q2⟩:=f3.2.2 _ e0 _ p0 Gu hp0;have:m / te.size*te.size+m % te.size=m:=by rw[Y!];exact q0w m te.size
  simp only[this]at q1;have:x=v0:=by
   have h0:cs[m]? =some x:=by simpa using hm
   rw[h0]at q1;exact Option.some.inj q1
  subst this;exact q2.dz (f3.2.1 _ e0 _ p0 Gu hp0)
 have hmul:off*te.size+src.length*te.size<=vs.size:=by
  rw[g3,<- N?];exact mulR _ o?
 have Wo: ∃w',(storeCells ⟨(ι β).b,ao,none⟩ cs.toList).run P w=q08 () w' /\(w'.heap.size=w.heap.size/\w'.os=w.os/\w'.output=w.output)/\(∀ b',b' ≠(ι β).b->w'.heap[b']? =w.heap[b']?)/\
   ∃ee:Array Value,w'.heap[(ι β).b]? =some (.cells ee elem fz)/\ee.size=vs.size/\ ∀k,ee[k]? =if off*te.size<=k/\k<off*te.size+cs.size then cs[k-off*te.size]? else vs[k]? :=by
  by_cases hs:src=[]
  ·have hcs0:cs.size=0:=by rw[f2,hs];simp
   have Xi:cs.toList=[]:=by simpa using hcs0
   refine⟨w,by rw[Xi];rfl,⟨rfl,rfl,rfl⟩,fun _ _=>rfl,vs,g1,rfl,fun k=>?_⟩;rw[if_neg o?]
  have:=OB hs;subst this;obtain⟨w',q1,q2,q3,ee,q4,q5,q6⟩:=uP (P:=P) (ι β).b (off*te.size) elem fz cs.toList 0 w vs g1 g2 (by simp[f2];omega) Wl;refine⟨w',by simpa using q1,q2,q3,ee,q4,q5,fun k=>?_⟩;rw[q6 k];simp
 obtain⟨w',q1,q2,q3,ee,q4,q5,q6⟩:=Wo;have T6:(Builtin.copy_ cu tt #[.slice (some ⟨(ι β).b,ao,none⟩) n ((ι β).cap-off),vy]).run P w= .ok (.int .i64 (src.length:Nat)) w' :=by
  have hmin:Nat.min Vb.length n=src.length:=hk.symm;unfold Builtin.copy_;simp only[A?,a?,i?,h0,kf,qy (Ki.slice jF),mb,l1,dy.size,hmin,f1,q1,W?,goInt]
 have hes' :(es.take off++src++es.drop (off+src.length)).length=es.length:=by
  simp;omega
 refine⟨_,w',T6,kl ι β (ι β), ?_⟩;have key:=zf.put (JZ:=noO hb rfl) hi (w' :=w') β (.row false te.size (es.take off++src++es.drop (off+src.length))) (ι β)
  (fun x hx=>by
   rw[hb]at hx
   cases hx
   simp only[jc,qJ.sh]
   exact⟨o?,fun _=>⟨z?,fun _=>⟨z?,Pl.J0 _⟩⟩⟩)
  ⟨o?,q2.2⟩ (fun b' _ jZ=>q3 b' (fun e=>jZ _ hb rfl e.symm)) (fun _=> .inr ⟨_,hb,rfl,rfl⟩) (fun mE=>by
   have hw: ∀b,Im b->w'.heap[b]? =w.heap[b]? :=fun b hb=>mE.ZS hi b hb
   have pW: ∀(i:Nat) e0,(es.take off++src++es.drop (off+src.length))[i]? =some e0->
     (off<=i/\i<off+src.length/\src[i-off]? =some e0)\/(¬ (off<=i/\i<off+src.length)/\es[i]? =some e0):=by
    intro i e0 h
    rw[kX es src off i o?]at h
    split at h
    ·rename_i hc
     exact .inl ⟨hc.1,hc.2,h⟩
    rename_i hc
    exact .inr ⟨hc,h⟩
   refine⟨ee,elem,fz,by simpa using q4,by rw[q5];exact g2,by simp[q5,g3],tJ,by simp only[vi];omega, ?_, ?_, ?_⟩
   ·intro e0 Gu
    obtain⟨i,uj⟩:=jI Gu
    rcases pW i e0 uj with ⟨_,_,h⟩|⟨_,h⟩
    ·exact f3.1 e0 (zc h)
    exact g6 e0 (zc h)
   ·intro i e0 j p uj hj
    rcases pW i e0 uj with ⟨_,_,h⟩|⟨_,h⟩
    ·exact f3.2.1 _ e0 j p h hj
    exact g7 _ e0 j p h hj
   intro i e0 j p uj hj
   have Sq:=(qL hj).1
   rw[q6]
   rcases pW i e0 uj with ⟨k1,k2,h⟩|⟨k1,h⟩
   ·obtain⟨v0,w1,w2⟩:=f3.2.2 _ e0 j p h hj
    have MO:=f3.1 e0 (zc h)
    have e1:i*te.size+j-off*te.size=(i-off)*te.size+j:=by
     have:i=off+(i-off):=o?
     conv=>lhs;rw[this,N?]
     omega
    have e2:off*te.size<=i*te.size:=mulR _ k1
    have e3:(i+1)*te.size<=(off+src.length)*te.size:=mulR _ k2
    rw[B?,N?]at e3
    rw[if_pos ⟨o?,by rw[f2];omega⟩,e1]
    exact⟨v0,w1,w2.mono mE.im hw⟩
   obtain⟨v0,w1,w2⟩:=g8 _ e0 j p h hj
   have MO:=g6 e0 (zc h)
   have XI: ¬(off*te.size<=i*te.size+j/\i*te.size+j<off*te.size+cs.size):=by
    rw[f2]
    by_cases xS:i<off
    ·have:(i+1)*te.size<=off*te.size:=mulR _ xS
     rw[B?]at this
     omega
    have:(off+src.length)*te.size<=i*te.size:=mulR _ o?
    rw[N?]at this
    omega
   rw[if_neg XI]
   exact⟨v0,w1,w2.mono mE.im hw⟩)
 exact⟨key.1,key.2,.pv _ _ (.int _ _),ju _,u7 jf (ju _) (jf β _ hb)⟩
end
end Go.Gm
