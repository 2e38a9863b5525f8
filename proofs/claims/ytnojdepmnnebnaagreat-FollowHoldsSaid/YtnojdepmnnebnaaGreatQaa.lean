/-
  The machine, part a.
-/
import Derived.WalkKit
import GoSem.Claims
import Derived.KernelRfl
open Array renaming getElem?_append_left->G!,range->S!,ext'->D!,getElem?_eq_none->y_,length_toList->a_,getElem?_push->e_,size_append->J_,getElem?_setIfInBounds->U_,getElem?_append_right->P_,append_assoc->F',size_empty->q15
open Bool renaming or_eq_true->z!,not_false->q1n
open Go.IntKind renaming i64->q?
open Go.Result renaming ok->O'
open Go.Sem renaming run_pure->K?,run->M_
open Go.World renaming setCell->A_,cell?->J'
open Int renaming toNat_of_nonneg->q07
open List renaming length_cons->h?,replicate->b?,mem_append->m?,getElem?_append_left->r?,map_cons->s?,getElem?_cons_zero->c?,getElem?_cons_succ->i?,getElem?_map->X?,getElem?_append_right->J?,mem_of_mem_take->W?,getElem?_take_of_lt->V?,mem_map->N?,flatMap_cons->D?,range->E?,getElem?_toArray->I?,length_pos_iff->q!,mem_of_mem_drop->x!,nodup_append->j!,getElem?_drop->v!,nodup_cons->d!,mem_flatMap->e!,getElem?_replicate->Q!,getElem?_set->N!,getElem?_append->M!,drop_eq_nil_of_le->g_,length_map->s_,getElem?_range->o_,length_replicate->U'
open Nat renaming succ_mul->B?,add_zero->M?,zero_add->P?,add_mul->T?,le_trans->n!,add_assoc->i!,mul_comm->X!,lt_of_lt_of_le->U!,zero_le->B!,lt_or_gt_of_ne->z_,lt_or_ge->V',ne_of_lt->Y',div_lt_of_lt_mul->I',not_lt_zero->q1m,div_add_mod->q1o,reducePow->q20,mod_lt->q2a
open Ne renaming symm->n_
open Option renaming getD_some->c!,map_some->F!
set_option linter.unusedSimpArgs false
set_option linter.unusedVariables false
theorem o?{P:Prop}(h:P:=by omega):P:=h
theorem v?{P:Prop}(h:P:=by simp;omega):P:=h
theorem z?{P:Prop}(h:P:=by simp):P:=h
theorem u?{P:Prop}(h:P:=by simp only;omega):P:=h
theorem k?{P:Prop}(h:P:=by kernel_rfl):P:=h
namespace Go.Gm
open Go
section
variable {α β:Type}
theorem qF{l:List α}{i:Nat}{a:α}(h:l[i]? =some a): ∃h:i<l.length,l[i]=a:=List.getElem?_eq_some_iff.1 h
theorem z6{l:List α}{i:Nat}{a:α}(h:l[i]? =some a):a∈l:=List.mem_of_getElem? h
theorem jx(n:Nat):n<=n:=Nat.le_refl n
theorem mulR{m n:Nat}(k:Nat)(h:m<=n):m*k<=n*k:=Nat.mul_le_mul_right k h
theorem yR{f:α->β}{x:Option α}{b:β}:x.map f=some b↔ ∃a,x=some a/\f a=b:=Option.map_eq_some_iff
theorem qS(a:α)(f:α->Option β):(some a).bind f=f a:=z?
theorem zF{α β:Type}: @bind Option _ α β=Option.bind:=by rfl
theorem wu{l:List α}{i:Nat}(h:i<l.length):l[i]? =some l[i]:=List.getElem?_eq_getElem h
theorem kb{a:α}{l:List α}(h:a∈l): ∃i:Nat,l[i]? =some a:=List.getElem?_of_mem h
theorem ki{a b:α}:(some a=some b)=(a=b):=z?
theorem ko:(false=true)=False:=z?
theorem zO(a b:Bool):((a&&b)=true)=(a=true/\b=true):=z?
theorem me(a:α)(w:World)(f:α->World->Result β):(O' a w).andThen f=f a w:=rfl
theorem jT(P:Program)(w:World)(x:Sem α)(f:α->Sem β):M_ P (x>>=f) w=(M_ P x w).andThen fun a w' =>M_ P (f a) w' :=Sem.run_bind P w x f
end
inductive PV where
 |bool (b:Bool)
 |int (k:IntKind) (n:Int)
 |str (s:List UInt8)
 |agg (c:List PV)
 |sl (qu:Bool) (sz:Nat) (es:List (List PV))
 |yd
 |fh
 |bT
 |ia
 |fn (f:FuncId)
 |rp (c:List PV)
 deriving Inhabited
def PV.V0:PV->Bool
 | .bool _| .int _ _| .str _| .yd| .fh| .bT| .ia| .fn _=>true
 |_=>false
inductive AV where
 |pv (p:PV)
 |ptr (β:Nat) (o:Nat)
 |uI (β xf i o:Nat)
 |tU (c:List PV) (o:Nat)
 |row (β xf off n:Nat)
 |o5
 |map (β:Nat)
 |Z5 (f:FuncId) (first cap:List AV)
 |agg (c:List AV)
 |xV (l:List AV)
 |undef
 deriving Inhabited
inductive qE where
 |box (c:List AV)
 |row (qu:Bool) (sz:Nat) (es:List (List PV))
 |map (es:List (PV×PV×Nat)) (zR:Nat)
 |mB (sz:Nat) (es:List (List AV))
 |jf (qu:Bool) (eu:List Nat) (es:List PV) (lg:Option (Nat×Nat×Nat))
 |xw
 deriving Inhabited
def qE.sh:qE->Option (Bool×Nat×Nat)
 | .row qu sz es=>some (qu,sz,es.length)
 | .mB sz es=>some (false,sz,es.length)
 | .jf qu _ es _=>some (qu,1,es.length)
 |_=>none
def qE.slv:qE->Option (Bool×Nat×Nat)
 | .row qu sz es=>some (qu,sz,es.length)
 | .jf qu _ es none=>some (qu,1,es.length)
 |_=>none
def zV{α:Type}(k:Nat):List α->Nat
 |[]=>0
 |_::_=>k
def A0(qu:Bool)(sz:Nat)(es:List (List PV)):PV:= .sl qu (zV sz es) es
abbrev yp:=List (Nat×AV)
abbrev qr:=List (Nat×qE)
def yp.get:yp->Nat->AV
 |[],_=> .undef
 |(i,v)::r,n=>if i=n then v else yp.get r n
def qr.get:qr->Nat->Option qE
 |[],_=>none
 |(i,v)::r,n=>if i=n then some v else qr.get r n
def qr.put:qr->Nat->qE->qr
 |[],n,x=>[(n,x)]
 |(i,v)::r,n,x=>if i=n then(i,x)::r else(i,v)::qr.put r n x
structure St where
 env:yp
 heap:qr
 nx:Nat
 deriving Inhabited
inductive TD where
 |struct (fields:List (Nat×Nat×TypeId))
 |array (len:Nat) (elem:TypeId)
 |slice (elem:TypeId)
 |map (key elem:TypeId)
 |bool
 |int (k:IntKind)
 |string
 |ptr
 |func
 |other
 deriving Inhabited
structure TI where
 size:Nat
 bytes:Nat
 td:TD
 zero:List PV
 eq:Bool
 pe:Option TypeId:=none
 deriving Inhabited
def TI.isAgg(t:TI):Bool:=match t.td with| .struct _| .array _ _=>true|_=>false
def pvOf:Value->Option PV
 | .bool b=>some (.bool b)
 | .int k n=>some (.int k n)
 | .string s=>some (.str s.data.toList)
 | .pointer none=>some .yd
 | .slice none 0 0=>some (.sl true 0 [])
 | .map none=>some .bT
 | .nilFunc=>some .fh
 | .nilIface=>some .ia
 | .func (.func f) ⟨[]⟩ ⟨[]⟩=>some (.fn f)
 |_=>none
def ie:List Value->Option (List PV)
 |[]=>some []
 |v::r=>match pvOf v,ie r with
  |some p,some l=>some (p::l)
  |_,_=>none
def avOf(v:Value):AV:=
 match v with
 | .agg ⟨cs⟩=>match ie cs with|some l=> .pv (.agg l)|none=> .undef
 | .tuple ⟨[]⟩=> .xV []
 |v=>match pvOf v with|some p=> .pv p|none=> .undef
structure pF where
 XZ:List Nat:=[]
 out:List Nat:=[]
 kc:List Nat:=[]
 xe:List (Nat×Nat):=[]
 freeze:List Nat:=[]
 own:Nat:=0
 deriving Inhabited
def pF.off(sp:pF):Nat:=if sp.own=1000 then 0 else sp.own
structure FI where
 nt:Nat
 results:List ResultVar
 body:Code
 deriving Inhabited
inductive Dx where
 |focus (t:Nat) (is:List Nat)
 |pack (t:Nat)
 |cut (t:Nat)
 |prom (t:Nat) (eu:List Nat)
 |GG (t:Nat)
 deriving Inhabited
structure GP where
 ti:TypeId->Option TI
 fn:FuncId->Option FI
 spec:FuncId->Nat->pF
 owned:FuncId->Bool
 sm:FuncId->Bool
 pre:FuncId->Nat->List Nat
 GG:TypeId->Bool
 ER:TypeId->Bool
 cmd:FuncId->Nat->List Dx
def ev(E:yp):Operand->AV
 | .tmp t=>E.get t
 | .const v=>avOf v
 | .global _=> .undef
 | .func f=> .pv (.fn f)
def lv:List AV->Option (List PV)
 |[]=>some []
 | .pv p::r=>match lv r with|some l=>some (p::l)|none=>none
 |_::_=>none
def Jy(c:List AV):AV:=match lv c with|some l=> .pv (.agg l)|none=> .agg c
def AV.cells:AV->List AV
 | .pv (.agg c)=>c.map .pv
 | .agg c=>c
 |v=>[v]
def PV.cells:PV->List PV
 | .agg c=>c
 |p=>[p]
def AV.MN:AV->Bool
 | .undef| .xV _=>false
 |_=>true
def AV.slc:AV->Bool
 | .row _ _ _ _| .o5| .pv (.sl _ _ _)=>true
 |_=>false
def WU:AV->Option PV
 | .pv p=>some p
 | .o5=>some (.sl false 0 [])
 |_=>none
def vM:AV->Option Nat
 | .pv (.int _ n)=>if 0<=n then some n.toNat else none
 |_=>none
abbrev mC:=AV×List (Nat×qE)×Nat
def EP(ti:TI)(c:List AV):Option AV:=
 if ti.isAgg then(if ti.size<=c.length then some (Jy (c.take ti.size))else none)
 else match c with|x::_=>some x|[]=>none
def ldP(ti:TI)(c:List PV):Option AV:=
 if ti.isAgg then(if ti.size<=c.length then some (.pv (.agg (c.take ti.size)))else none)
 else match c with|x::_=>some (.pv x)|[]=>none
def QJ(ti:TI)(a:AV)(H:qr):Option AV:=
 match a with
 | .ptr β o=>match H.get β with
  |some (.box c)=>EP ti (c.drop o)
  |_=>none
 | .uI β xf i o=>match H.get β with
  |some (.row false _ es)=>if xf=es.length then match es[i]? with|some e=>ldP ti (e.drop o)|none=>none else none
  |some (.mB _ es)=>if xf=es.length then match es[i]? with|some e=>EP ti (e.drop o)|none=>none else none
  |some (.jf false _ es (some (j,γ,fv)))=>if xf=es.length/\o=0/\j=i then EP ti [.row γ fv 0 fv]else none
  |_=>none
 | .tU c o=>ldP ti (c.drop o)
 | .pv (.rp c)=>ldP ti c
 |_=>none
def Zv(sz β xf i o size:Nat)(vs:List AV)(es:List (List AV)):Option (List (Nat×qE)):=none
def Hb:Option (Nat×Nat×Nat)->Nat->Bool
 |some x,i=>decide (x.1=i)
 |none,_=>true
def Jb(β xf i o size:Nat)(v:AV)(ds:List Nat)(es:List PV)(lg:Option (Nat×Nat×Nat)):Option (List (Nat×qE)):=
 match v with
 | .row γ fv 0 n=>if xf=es.length/\i<es.length/\o=0/\size=1/\n=fv/\Hb lg i=true then some [(β,.jf false ds es (some (i,γ,fv)))]else none
 |_=>none
def og(ti:TI)(a v:AV)(H:qr):Option (List (Nat×qE)):=
 if v.MN=true/\v.cells.length=ti.size then
  match a with
  | .ptr β o=>match H.get β with
   |some (.box c)=>if o+ti.size<=c.length then some [(β,.box (c.take o++v.cells++c.drop (o+ti.size)))]else none
   |_=>none
  | .uI β xf i o=>match lv v.cells with
   |some ps=>match H.get β with
    |some (.row false sz es)=>
     if xf=es.length then match es[i]? with
      |some e=>if o+ti.size<=e.length then some [(β,.row false sz (es.set i (e.take o++ps++e.drop (o+ti.size))))]else none
      |none=>none
     else none
    |some (.mB sz es)=>Zv sz β xf i o ti.size v.cells es
    |_=>none
   |none=>match H.get β with
    |some (.mB sz es)=>Zv sz β xf i o ti.size v.cells es
    |some (.jf false ds es lg)=>Jb β xf i o ti.size v ds es lg
    |_=>none
  |_=>none
 else none
def lG(qY:Nat->Option (Nat×Nat))(ρ:Operand->AV):List (Nat×Operand)->List AV->Option (List AV)
 |[],c=>some c
 |(i,x)::r,c=>
  match qY i with
  |some (off,size)=>
   if(ρ x).MN=true/\(ρ x).cells.length=size/\off+size<=c.length then
    lG qY ρ r (c.take off++(ρ x).cells++c.drop (off+size))
   else none
  |none=>none
def lE(fs:List (Nat×Nat×TypeId))(i:Nat):Option (Nat×Nat):=match fs[i]? with|some (o,s,_)=>some (o,s)|none=>none
def KB(ti:TI)(o0:TypeId->Option TI)(ρ:Operand->AV)(parts:List (Nat×Operand)):Option AV:=
 match ti.td with
 | .struct fs=>match lG (lE fs) ρ parts (ti.zero.map .pv)with|some c=>some (Jy c)|none=>none
 | .array _ e=>match o0 e with
  |some te=>match lG (fun i=>some (i*te.size,te.size)) ρ parts (ti.zero.map .pv)with|some c=>some (Jy c)|none=>none
  |none=>none
 |_=>none
def rL(size:Nat)(ρ:Operand->AV):List (Nat×Operand)->List (List PV)->Option (List (List PV))
 |[],es=>some es
 |(i,x)::r,es=>
  match WU (ρ x)with
  |some p=>if p.cells.length=size/\i<es.length then rL size ρ r (es.set i p.cells)else none
  |none=>none
def pX(size:Nat)(ρ:Operand->AV):List (Nat×Operand)->List (List AV)->Option (List (List AV))
 |[],es=>some es
 |(i,x)::r,es=>if(ρ x).MN=true/\(ρ x).cells.length=size/\i<es.length then pX size ρ r (es.set i (ρ x).cells)else none
def yI(v:AV)(H:qr):Option (Nat×List (List PV)):=
 match v with
 | .pv (.sl _ sz es)=>some (sz,es)
 | .o5=>some (0,[])
 | .row β xf off n=>match H.get β with
  |some (.row _ sz es)=>if xf=es.length then some (sz,(es.drop off).take n)else none
  |_=>none
 | .pv (.str s)=>some (1,s.map fun b=>[.int .u8 b.toNat])
 |_=>none
def qg(zx bytes:Nat):Bool:=decide (zx*bytes<=2^46)&&decide (zx<=2^46)&&decide (bytes<=2^20)
def jX(te:TI)(s:AV)(src:List (List PV))(γ nx fm:Nat):Option mC:=
 match src with
 |[]=>some (s,[],nx)
 |_::_=>if qg src.length te.bytes=true then some (.row γ src.length 0 src.length,[(γ,.row false te.size src)],fm)else none
def Q4(v:AV)(H:qr):Option (Nat×List (List AV)):=
 match v with
 | .row β xf off n=>match H.get β with
  |some (.mB sz es)=>if xf=es.length then some (sz,(es.drop off).take n)else none
  |_=>none
 |_=>none
def freshA(te:TI)(src:List (List AV))(γ fm:Nat):Option mC:=
 match src with
 |[]=>none
 |_::_=>if qg src.length te.bytes=true then some (.row γ src.length 0 src.length,[(γ,.mB te.size src)],fm)else none
def mH(te:TI)(s x:AV)(H:qr)(nx:Nat):Option mC:=none
def uT(te:TI)(s x:AV)(H:qr)(nx:Nat):Option mC:=
 match yI x H with
 |none=>mH te s x H nx
 |some (rD,src)=>
  if(rD=te.size\/src=[])/\0<te.size then
   match s with
   | .pv (.sl true _ _)=>jX te s src nx nx (nx+1)
   | .o5=>jX te s src nx nx (nx+1)
   | .row β xf off n=>match H.get β with
    |some (.row true _ es)=>if xf=es.length/\off=0/\n=0 then jX te s src β nx nx else none
    |some (.row false sz es)=>
     if xf=es.length/\sz=te.size/\off=0/\qg (n+src.length) te.bytes=true then
      if n=es.length then some (.row β (es++src).length 0 (es++src).length,[(β,.row false te.size (es++src))],nx)
      else some (.row β (es.take n++src++es.drop (n+src.length)).length 0 (n+src.length),[(β,.row false te.size (es.take n++src++es.drop (n+src.length)))],nx)
     else none
    |_=>none
   |_=>none
  else none
def nN(te:TI)(s x:AV)(H:qr)(nx:Nat):Option mC:=
 match Q4 x H with
 |some (rD,[[.row γ fv 0 fn]])=>match s with
  | .row β xf off n=>match H.get β with
   |some (.jf qu ds es none)=>if xf=es.length/\off=0/\n=es.length/\rD=te.size/\te.size=1/\fn=fv/\qg (n+1) te.bytes=true then
     some (.row β (es.length+1) 0 (es.length+1),[(β,.jf false ds (es++[.sl true 0 []]) (some (es.length,γ,fv)))],nx)else none
   |_=>none
  |_=>none
 |_=>none
def pr:List (List PV)->Option (List UInt8)
 |[]=>some []
 |[.int .u8 n]::r=>match pr r with|some l=>some (UInt8.ofNat n.toNat::l)|none=>none
 |_=>none
def bf(e:TypeId)(te:TI)(s x:AV)(H:qr)(nx:Nat):Option mC:=none
def tH(x:AV)(H:qr)(nx:Nat):Option mC:=none
def gy(el:TypeId)(p x:AV)(H:qr)(nx:Nat):Option mC:=none
def ZM(te:TI)(d x:AV)(H:qr)(nx:Nat):Option mC:=
 match yI x H with
 |none=>none
 |some (rD,src)=>match d with
  | .row β xf off n=>match H.get β with
   |some (.row false sz es)=>
    if xf=es.length/\sz=te.size/\(rD=te.size\/src=[])then
     some (.pv (.int .i64 ((src.take n).length:Nat)),[(β,.row false te.size (es.take off++src.take n++es.drop (off+(src.take n).length)))],nx)
    else none
   |_=>none
  |_=>none
def tG(td:TD)(o0:TypeId->Option TI)(x i:AV)(H:qr):Option AV:=
 match vM i with
 |none=>none
 |some k=>
  match td with
  | .slice e=>match o0 e with
   |none=>none
   |some te=>match x with
    | .pv (.sl _ sz es)=>if sz=te.size then match es[k]? with|some c=>some (.tU c 0)|none=>none else none
    | .row β xf off n=>match H.get β with
     |some (.row false sz es)=>if xf=es.length/\sz=te.size/\k<n then some (.uI β xf (off+k) 0)else none
     |some (.mB sz es)=>if xf=es.length/\sz=te.size/\k<n then some (.uI β xf (off+k) 0)else none
     |some (.jf false _ es _)=>if xf=es.length/\te.size=1/\k<n then some (.uI β xf (off+k) 0)else none
     |_=>none
    |_=>none
  | .array len e=>match o0 e with
   |none=>none
   |some te=>if k<len then match x with
    | .ptr β o=>some (.ptr β (o+k*te.size))
    | .uI β xf j o=>some (.uI β xf j (o+k*te.size))
    | .tU c o=>some (.tU c (o+k*te.size))
    |_=>none
    else none
  |_=>none
def oe(td:TD)(x:AV)(f:Nat):Option AV:=
 match td with
 | .struct fs=>match fs[f]? with
  |some (o',s,_)=>if 0<s then match x with
   | .ptr β o=>some (.ptr β (o+o'))
   | .uI β xf j o=>some (.uI β xf j (o+o'))
   | .tU c o=>some (.tU c (o+o'))
   | .pv (.rp c)=>some (.tU c o')
   |_=>none
   else none
  |none=>none
 |_=>none
def Bw(ti:TI)(x:AV)(off:Nat):Option AV:=
 match x with
 | .pv (.agg c)=>ldP ti (c.drop off)
 | .agg c=>EP ti (c.drop off)
 |_=>none
def kj(ρ:Operand->AV)(d:Nat):Option Operand->Option Nat
 |none=>some d
 |some x=>vM (ρ x)
def ek(td:TD)(o0:TypeId->Option TI)(ρ:Operand->AV)(x:AV)(lo hi mx:Option Operand)(H:qr):Option AV:=
 if mx.isSome=true/\hi.isNone=true then none else
 match td with
 | .string=>match x with
  | .pv (.str s)=>
   if mx.isSome then none else
   match kj ρ 0 lo,kj ρ s.length hi with
   |some l,some h=>if l<=h/\h<=s.length then some (.pv (.str ((s.take h).drop l)))else none
   |_,_=>none
  |_=>none
 | .slice e=>match o0 e with
  |none=>none
  |some te=>match x with
   | .pv (.sl qu sz es)=>
    match kj ρ 0 lo,kj ρ es.length hi,kj ρ es.length mx with
    |some l,some h,some m=>
     if l<=h/\h<=m/\m<=es.length/\(sz=te.size\/es=[])then
      if mx.isSome=true/\l=m/\qu=false then some .o5 else some (.pv (A0 qu sz ((es.take h).drop l)))
     else none
    |_,_,_=>none
   | .row β xf off n=>
    match H.get β with
    |some b=>match b.slv with
     |some (qu,sz,k)=>
      match kj ρ 0 lo,kj ρ n hi,kj ρ n mx with
      |some l,some h,some m=>
       if xf=k/\l<=h/\h<=m/\m<=n/\(sz=te.size\/qu=true)then
        if mx.isSome=true then(if qu=true then some (.row β xf off n)else if l=m then some .o5 else none)
        else some (.row β xf (off+l) (h-l))
       else none
      |_,_,_=>none
     |none=>none
    |none=>none
   | .o5=>
    match kj ρ 0 lo,kj ρ 0 hi,kj ρ 0 mx with
    |some 0,some 0,some 0=>some .o5
    |_,_,_=>none
   |_=>none
 |_=>none
def ka:List UInt8->List UInt8->Bool
 |_,[]=>false
 |[],_::_=>true
 |a::x,b::y=>a<b || (a==b&&ka x y)
def Ht(op:BinOp)(k:IntKind)(a b:Int):Option PV:=
 match op with
 | .add=>some (.int k (k.wrap (a+b)))
 | .sub=>some (.int k (k.wrap (a-b)))
 | .mul=>some (.int k (k.wrap (a*b)))
 | .quo=>if b=0 then none else some (.int k (k.wrap (a.tdiv b)))
 | .rem=>if b=0 then none else some (.int k (a.tmod b))
 | .eql=>some (.bool (a==b))
 | .neq=>some (.bool (a != b))
 | .lss=>some (.bool (decide (a<b)))
 | .leq=>some (.bool (decide (a<=b)))
 | .gtr=>some (.bool (decide (a>b)))
 | .geq=>some (.bool (decide (a>=b)))
 | .and=>some (.int k (k.wrap (BitVec.ofInt k.bits a &&& BitVec.ofInt k.bits b).toNat))
 | .or=>some (.int k (k.wrap (BitVec.ofInt k.bits a ||| BitVec.ofInt k.bits b).toNat))
 | .xor=>some (.int k (k.wrap (BitVec.ofInt k.bits a ^^^ BitVec.ofInt k.bits b).toNat))
 | .andNot=>some (.int k (k.wrap (BitVec.ofInt k.bits a &&& ~~~BitVec.ofInt k.bits b).toNat))
 |_=>none
def Gn(op:BinOp)(a b:List UInt8):Option PV:=
 match op with
 | .add=>if a.length+b.length<=2^62 then some (.str (a++b))else none
 | .eql=>some (.bool (a==b))
 | .neq=>some (.bool (!(a==b)))
 | .lss=>some (.bool (ka a b))
 | .leq=>some (.bool (ka a b || a==b))
 | .gtr=>some (.bool (!(ka a b || a==b)))
 | .geq=>some (.bool (!ka a b))
 |_=>none
def uX:List PV->List PV->Option Bool
 |[],[]=>some true
 | .int k a::r,.int k' b::r' =>if k=k' then match uX r r' with|some t=>some (a==b&&t)|none=>none else none
 | .str a::r,.str b::r' =>match uX r r' with|some t=>some (a==b&&t)|none=>none
 | .bool a::r,.bool b::r' =>match uX r r' with|some t=>some (a==b&&t)|none=>none
 |_,_=>none
def di(td:TD)(v:AV)(H:qr):Option Bool:=
 match td with
 | .ptr=>match v with
  | .pv .yd=>some true
  | .ptr _ _| .tU _ _| .uI _ _ _ _| .pv (.rp _)=>some false
  |_=>none
 | .slice _=>match v with
  | .pv (.sl b _ _)=>some b
  | .o5=>some false
  | .row β xf _ _=>match H.get β with
   |some (.row b _ es)=>if xf=es.length then some b else none
   |_=>none
  |_=>none
 | .map _ _=>match v with
  | .pv .bT=>some true
  | .map _=>some false
  |_=>none
 | .func=>match v with
  | .pv .fh=>some true
  | .pv (.fn _)| .Z5 _ _ _=>some false
  |_=>none
 |_=>none
def Wt(td:TD)(v:AV):Bool:=
 match td,v with
 | .ptr,.pv .yd=>true
 | .slice _,.pv (.sl true _ _)=>true
 | .map _ _,.pv .bT=>true
 | .func,.pv .fh=>true
 |_,_=>false
def jN:TD->PV->Bool
 | .int _,.int _ _| .string,.str _| .bool,.bool _=>true
 |_,_=>false
def aO(o0:TypeId->Option TI):List (Nat×Nat×TypeId)->List PV->Bool
 |[],[]=>true
 |(_,_,t)::r,p::l=>(match o0 t with|some ti=>jN ti.td p|none=>false)&&aO o0 r l
 |_,_=>false
def N4(o0:TypeId->Option TI)(ti:TI)(a:List PV):Bool:=
 match ti.td with
 | .struct fs=>if ti.size<=a.length then ti.eq&&aO o0 fs (a.take ti.size)else false
 |td=>jN td (a.headD .yd)
def H7(o0:TypeId->Option TI):List (Nat×Nat×TypeId)->List PV->Bool
 |[],[]=>true
 |[],_::_=>false
 |(_,_,t)::r,a=>match o0 t with
  |some ti=>N4 o0 ti a&&H7 o0 r (a.drop ti.size)
  |none=>false
def aEq(o0:TypeId->Option TI)(ti:TI)(x y:AV)(H:qr):Option Bool:=
 match ti.td with
 | .bool=>match x,y with
  | .pv (.bool a),.pv (.bool b)=>some (a==b)
  |_,_=>none
 | .struct fs=>match x,y with
  | .pv (.agg a),.pv (.agg b)=>if ti.eq=true/\aO o0 fs a=true then uX a b else none
  |_,_=>none
 |td=>if Wt td y=true then di td x H else if Wt td x=true then di td y H else none
def PJ(o0:TypeId->Option TI)(op:BinOp)(ti:TI)(x y:AV)(H:qr):Option PV:=
 match op with
 | .shl=>match x,y with
  | .pv (.int k a),.pv (.int _ b)=>if 0<=b then some (.int k (k.wrap (a*2^(min b.toNat k.bits))))else none
  |_,_=>none
 | .shr=>match x,y with
  | .pv (.int k a),.pv (.int _ b)=>if 0<=b then some (.int k (a.fdiv (2^(min b.toNat k.bits))))else none
  |_,_=>none
 |op=>match x,y with
  | .pv (.int k a),.pv (.int k' b)=>if k=k' then Ht op k a b else none
  | .pv (.str a),.pv (.str b)=>Gn op a b
  |x,y=>match op with
   | .eql=>match aEq o0 ti x y H with|some t=>some (.bool t)|none=>none
   | .neq=>match aEq o0 ti x y H with|some t=>some (.bool (!t))|none=>none
   |_=>none
def X2:TD->AV->Bool
 | .string,.pv (.str _)=>true
 | .slice _,.pv (.sl _ _ _)=>true
 | .slice _,.row _ _ _ _=>true
 | .slice _,.o5=>true
 | .map _ _,.pv .bT=>true
 | .map _ _,.map _=>true
 |_,_=>false
def aUn(op:UnOp)(x:AV):Option PV:=
 match op,x with
 | .not,.pv (.bool b)=>some (.bool !b)
 | .neg,.pv (.int k n)=>some (.int k (k.wrap (0-n)))
 |_,_=>none
def rI(src dst:TD)(dte:TypeId->Option TI)(x:AV)(H:qr)(nx:Nat):Option mC:=
 match src,dst,x with
 |_,.int k,.pv (.int _ n)=>some (.pv (.int k (k.wrap n)),[],nx)
 |_,.string,.pv (.str s)=>some (.pv (.str s),[],nx)
 | .slice e,.string,x=>match dte e with
  |some te=>match te.td with
   | .int .u8=>match yI x H with
    |some (rD,es)=>if rD=1\/es=[]then match pr es with|some l=>some (.pv (.str l),[],nx)|none=>none else none
    |none=>none
   |_=>none
  |none=>none
 |_,.slice e,.pv (.str s)=>match dte e with
  |some te=>match te.td with
   | .int .u8=>some (.row nx s.length 0 s.length,[(nx,.row false 1 (s.map fun b=>[.int .u8 b.toNat]))],nx+1)
   |_=>none
  |none=>none
 |_,_,_=>none
def C8:PV->PV->Option Bool
 | .int k a,.int k' b=>if k=k' then some (a==b)else none
 | .str a,.str b=>some (a==b)
 | .bool a,.bool b=>some (a==b)
 |_,_=>none
def findKey(k:PV):List (PV×PV×Nat)->Nat->Option (Option (Nat×PV×Nat))
 |[],_=>some none
 |(x,v,born)::r,i=>match C8 k x with
  |some true=>some (some (i,v,born))
  |some false=>findKey k r (i+1)
  |none=>none
def WV(t:TI):PV:=if t.isAgg then .agg t.zero else t.zero.headD .yd
def KH(m:AV)(k:PV)(H:qr):Option (Option (Nat×PV×Nat)):=
 match m with
 | .pv .bT=>some none
 | .map β=>match H.get β with
  |some (.map es _)=>findKey k es 0
  |_=>none
 |_=>none
def aJ(tk te:TI)(m k:AV)(ok:Bool)(H:qr):Option AV:=
 match k with
 | .pv k=>if jN tk.td k then match KH m k H with
  |some (some (_,v,_))=>some (if ok then .xV [.pv v,.pv (.bool true)]else .pv v)
  |some none=>some (if ok then .xV [.pv (WV te),.pv (.bool false)]else .pv (WV te))
  |none=>none
  else none
 |_=>none
def lr(tk te:TI)(m k:AV)(ok:Bool)(H:qr):Option AV:=none
def dZ(tk:TI)(m k v:AV)(H:qr):Option (List (Nat×qE)):=none
def rJ(tk:TI)(m k:AV)(v:PV)(H:qr):Option (List (Nat×qE)):=
 match m,k with
 | .map β,.pv k=>if jN tk.td k then match H.get β with
  |some (.map es zR)=>match findKey k es 0 with
   |some (some (i,_,born))=>some [(β,.map (es.set i (k,v,born)) zR)]
   |some none=>some [(β,.map (es++[(k,v,zR)]) (zR+1))]
   |none=>none
  |_=>none
  else none
 |_,_=>none
def lq(tk te:TI)(m k:AV)(H:qr):Option (AV×List (Nat×qE)):=none
def bI(m st:AV)(v:PV)(H:qr):Option (List (Nat×qE)):=none
def cj(tk:TI)(m k:AV)(H:qr):Option (List (Nat×qE)):=
 match m,k with
 | .pv .bT,.pv k=>if jN tk.td k then some []else none
 | .map β,.pv k=>if jN tk.td k then match H.get β with
  |some (.map es zR)=>match findKey k es 0 with
   |some (some (i,_,_))=>some [(β,.map (es.eraseIdx i) zR)]
   |some none=>some [(β,.map es zR)]
   |none=>none
  |_=>none
  else none
 |_,_=>none
def Br(x:AV)(H:qr):Option Nat:=
 match x with
 | .pv (.str s)=>some s.length
 | .pv (.sl _ _ es)=>some es.length
 | .pv .bT=>some 0
 | .o5=>some 0
 | .row β xf _ n=>match H.get β with
  |some (.row _ _ es)=>if xf=es.length then some n else none
  |some (.mB _ es)=>if xf=es.length then some n else none
  |some (.jf _ _ es _)=>if xf=es.length then some n else none
  |_=>none
 | .map β=>match H.get β with
  |some (.map es _)=>some es.length
  |_=>none
 |_=>none
def oG(isMax:Bool)(k:IntKind):Int->List AV->Option PV
 |a,[]=>some (.int k a)
 |a,.pv (.int _ b)::r=>oG isMax k (if isMax then(if b>a then b else a)else(if b<a then b else a)) r
 |_,_=>none
def Oi(isMax:Bool):List AV->Option PV
 | .pv (.int k a)::r=>oG isMax k a r
 |[.pv (.str a),.pv (.str b)]=>if isMax=true then some (.str (if ka a b=true then b else a))else none
 |_=>none
def sC(td:TD)(o0:TypeId->Option TI)(l c:AV)(nx:Nat):Option mC:=
 match td with
 | .slice e=>match o0 e,vM l,vM c with
  |some te,some n,some n' =>
   if n' =n/\0<te.size/\qg n te.bytes=true then some (.row nx (b? n te.zero).length 0 (b? n te.zero).length,[(nx,.row false te.size (b? n te.zero))],nx+1)else none
  |_,_,_=>none
 |_=>none
def AV.refs:AV->List Nat
 | .ptr β _| .uI β _ _ _| .row β _ _ _| .map β=>[β]
 | .agg c=>pN c
 | .xV c=>pN c
 | .Z5 _ a b=>pN a++pN b
 |_=>[]
where pN:List AV->List Nat
 |[]=>[]
 |v::r=>v.refs++pN r
def AV.rows:AV->List Nat
 | .row β _ _ _=>[β]
 | .agg c=>QV c
 | .xV c=>QV c
 |_=>[]
where QV:List AV->List Nat
 |[]=>[]
 |v::r=>v.rows++QV r
def AV.yz(β:Nat)(qu:Bool)(sz:Nat)(es:List (List PV)):AV->AV
 | .row β' xf off n=>if β' =β/\xf=es.length then .pv (A0 qu sz ((es.drop off).take n))else .row β' xf off n
 | .agg c=>Jy (ry c)
 | .xV c=> .xV (ry c)
 | .Z5 f a b=> .Z5 f (ry a) (ry b)
 |v=>v
where ry:List AV->List AV
 |[]=>[]
 |v::r=>AV.yz β qu sz es v::ry r
def qE.yz(β:Nat)(qu:Bool)(sz:Nat)(es:List (List PV)):qE->qE
 | .box c=> .box (AV.yz.ry β qu sz es c)
 | .mB Sa ov=> .mB Sa (ov.map (AV.yz.ry β qu sz es))
 |b=>b
def freeze(β:Nat)(s:St):St:=
 match s.heap.get β with
 |some (.row qu sz es)=>
  { s with env:=s.env.map (fun (t,v)=>(t,v.yz β qu sz es)),heap:=qr.put (s.heap.map fun(i,b)=>(i,b.yz β qu sz es)) β .xw }
 |some (.jf qu _ es none)=>
  { s with env:=s.env.map (fun (t,v)=>(t,v.yz β qu 1 (es.map fun p=>[p]))),heap:=qr.put (s.heap.map fun(i,b)=>(i,b.yz β qu 1 (es.map fun p=>[p]))) β .xw }
 |_=>s
def uW:List Nat->St->St
 |[],s=>s
 |β::r,s=>uW r (freeze β s)
def cr(es:List (List PV)):Bool:=es.all fun e=>e.all PV.V0
def Ha(qu:Bool)(d:Nat)(ds:List Nat)(es:List (List PV)):Option qE:=
 match ds with
 |[]=>some (.row qu d es)
 |_::_=>if d=1 then some (.jf qu ds es.flatten none)else none
def Hc(H:qr)(nx β i:Nat):Option (qr×Nat×Nat):=
 match H.get β with
 |some (.jf false eu es none)=>match eu with
  |d::ds=>match es[i]? with
   |some (.sl qu _ ov)=>match Ha qu d ds ov with
    |some b=>some (qr.put (qr.put H β (.jf false (d::ds) es (some (i,nx,ov.length)))) nx b,nx+1,nx)
    |none=>none
   |_=>none
  |[]=>none
 |some (.jf false _ _ (some x))=>if x.1=i then some (H,nx,x.2.1)else none
 |_=>none
def dB(H:qr)(nx β:Nat):List Nat->qr×Nat
 |[]=>(H,nx)
 |i::r=>match Hc H nx β i with
  |some (H',fm,γ)=>dB H' fm γ r
  |none=>(H,nx)
def Xd(d:Nat)(ds:List Nat)(xf:Nat):qE->Option PV
 | .row qu sz es=>match ds with
  |[]=>if xf=es.length/\(qu=true\/sz=d)/\cr es=true then some (.sl qu (zV d es) es)else none
  |_::_=>none
 | .jf qu SF es none=>match ds with
  |[]=>none
  |_::_=>if SF=ds/\d=1/\xf=es.length then some (.sl qu (zV d (es.map fun p=>[p])) (es.map fun p=>[p]))else none
 |_=>none
def U9(H:qr)(β:Nat):qr:=
 match H.get β with
 |some (.jf false (d::ds) es (some (i,γ,xf)))=>match H.get γ with
  |some b=>match Xd d ds xf b with
   |some p=>qr.put (qr.put H β (.jf false (d::ds) (es.set i p) none)) γ .xw
   |none=>H
  |none=>H
 |_=>H
def WQ:Nat->qr->Nat->qr
 |0,H,_=>H
 |n+1,H,β=>match H.get β with
  |some (.jf _ _ _ (some x))=>U9 (WQ n H x.2.1) β
  |_=>H
def bD(s:St)(t:Nat):AV:=
 if t<1000 then s.env.get t else match s.env.get (t % 1000)with
  | .ptr β o=>match s.heap.get β with
   |some (.box c)=>match c[o+(t / 1000-1)]? with|some v=>v|none=> .undef
   |_=> .undef
  |_=> .undef
def RZ(s:St):List Nat->Option (List Nat)
 |[]=>some []
 |t::r=>match vM (bD s t),RZ s r with
  |some n,some l=>some (n::l)
  |_,_=>none
def Qu(s:St)(t:Nat)(v:AV):St:=
 if t<1000 then{ s with env:=(t,v)::s.env }else match s.env.get (t % 1000)with
  | .ptr β o=>match s.heap.get β with
   |some (.box c)=>if o+(t / 1000-1)<c.length then{ s with heap:=qr.put s.heap β (.box (c.set (o+(t / 1000-1)) v)) }else s
   |_=>s
  |_=>s
def KZ(n:Nat):qE->Option (Nat×qE)
 | .row false sz es=>if n<=es.length then some (es.length,.row false sz (es.take n))else none
 | .jf qu eu es none=>if n<=es.length then some (es.length,.jf qu eu (es.take n) none)else none
 |_=>none
def Qp:List Nat->qE
 |[]=> .row true 0 []
 |d::ds=> .jf true (d::ds) [] none
def Ke(s:St):AV->List Nat
 | .ptr β _=>match s.heap.get β with
  |some (.box c)=>AV.rows.QV c
  |_=>[]
 |v=>v.rows
def VN(c:Dx)(s:St):St:=
 match c with
 | .focus t is=>match bD s t,RZ s is with
  | .row β _ 0 _,some l=>{ s with heap:=(dB s.heap s.nx β l).1,nx:=(dB s.heap s.nx β l).2 }
  |_,_=>s
 | .pack t=>match bD s t with
  | .row β _ _ _=>{ s with heap:=WQ 4 s.heap β }
  |_=>s
 | .cut t=>match bD s t with
  | .row β xf 0 n=>match s.heap.get β with
   |some b=>match KZ n b with
    |some (l,y)=>if xf=l then Qu { s with heap:=qr.put (qr.put s.heap β .xw) s.nx y,nx:=s.nx+1 } t (.row s.nx n 0 n)else s
    |none=>s
   |none=>s
  |_=>s
 | .prom t eu=>match bD s t with
  | .pv (.sl true _ [])=>Qu { s with heap:=qr.put s.heap s.nx (Qp eu),nx:=s.nx+1 } t (.row s.nx 0 0 0)
  |_=>s
 | .GG t=>uW (Ke s (bD s t)) s
def pR:List Dx->St->St
 |[],s=>s
 |c::r,s=>pR r (VN c s)
inductive Ex where
 |normal
 |ret
 |exit (id:Nat)
 deriving DecidableEq,Inhabited
structure xm where
 call:FuncId->List AV->qr->Option (AV×qr)
 loop:FuncId->Nat->St->Option (Ex×St)
def AV.cq(g:Nat->Nat):AV->AV
 | .ptr β o=> .ptr (g β) o
 | .uI β v i o=> .uI (g β) v i o
 | .row β v off n=> .row (g β) v off n
 | .map β=> .map (g β)
 | .agg c=> .agg (Q1 g c)
 | .xV c=> .xV (Q1 g c)
 | .Z5 f a b=> .Z5 f (Q1 g a) (Q1 g b)
 |v=>v
where Q1 (g:Nat->Nat):List AV->List AV
 |[]=>[]
 |v::r=>AV.cq g v::Q1 g r
def qE.cq(g:Nat->Nat):qE->qE
 | .jf qu eu es lg=> .jf qu eu es (lg.map fun x=>(x.1,g x.2.1,x.2.2))
 | .box c=> .box (AV.cq.Q1 g c)
 | .mB sz es=> .mB sz (es.map (AV.cq.Q1 g))
 |b=>b
def qE.refs:qE->List Nat
 | .jf _ _ _ lg=>match lg with|some x=>[x.2.1]|none=>[]
 | .box c=>AV.refs.pN c
 | .mB _ es=>es.flatMap AV.refs.pN
 |_=>[]
def pos:List Nat->Nat->Nat
 |[],_=>0
 |β::r,x=>if β=x then 0 else pos r x+1
def Wz:List Nat->Nat->Bool
 |[],_=>false
 |β::r,x=>if β=x then true else Wz r x
def Gq:List Nat->List Nat->Bool
 |[],_=>true
 |x::r,L=>Wz L x&&Gq r L
def so(H:qr)(β:Nat):qE:=match H.get β with|some b=>b|none=> .xw
def nU(H:qr):Nat->List Nat->List Nat->List Nat
 |0,_,d=>d
 |_+1,[],d=>d
 |n+1,β::r,d=>if Wz d β then nU H n r d else nU H n (r++(so H β).refs) (d++[β])
def pW(H:qr)(L:List Nat):List Nat->Bool
 |[]=>true
 |β::r=>(match H.get β with|some b=>Gq b.refs L|none=>false)&&pW H L r
def pick(H:qr)(g:Nat->Nat):Nat->List Nat->qr
 |_,[]=>[]
 |i,β::r=>(i,(so H β).cq g)::pick H g (i+1) r
def sj(H:qr)(d:List Nat)(roots:List Nat):Option (List Nat×qr):=
 match roots,d with
 |[],[]=>some ([],[])
 |roots,d=>
  let L:=nU H 400 (roots++d.flatMap fun β=>(so H β).refs) d
  if Gq roots L&&pW H L L then some (L,pick H (pos L) 0 L)else none
def qZ:List (Nat×qE)->qr->qr
 |[],H=>H
 |(i,b)::r,H=>qZ r (qr.put H i b)
def jc(L:List Nat)(nx:Nat)(j:Nat):Nat:=match L[j]? with|some β=>β|none=>nx+(j-L.length)
def vW(g:Nat->Nat):qr->List (Nat×qE)
 |[]=>[]
 |(i,b)::r=>(g i,b.cq g)::vW g r
def uL:Nat->qr->Bool
 |_,[]=>true
 |i,(j,_)::r=>decide (j=i)&&uL (i+1) r
def eQ(O:xm)(f:FuncId)(args:List AV)(H:qr)(nx:Nat):Option mC:=
 match sj H [] (AV.refs.pN args)with
 |none=>none
 |some (L,H0)=>
  match O.call f (AV.cq.Q1 (pos L) args) H0 with
  |none=>none
  |some (v,H')=>if uL 0 H' =true then some (v.cq (jc L nx),vW (jc L nx) H',nx+(H'.length-L.length))else none
def orT:Option mC->Option mC->Option mC
 |some r,_=>some r
 |none,y=>y
def rH(G:GP)(b:Builtin)(cu:List TypeId)(args:List AV)(H:qr)(nx:Nat):Option mC:=
 match b,cu,args with
 | .len,t::_,[x]=>match G.ti t with
  |some ti=>if X2 ti.td x=true then match Br x H with|some n=>some (.pv (.int .i64 n),[],nx)|none=>none else none
  |none=>none
 | .unsafeSliceData,_,[x]=>tH x H nx
 | .unsafeString,tp::_,[p,x]=>match G.ti tp with
  |some ti=>match ti.pe with
   |some el=>match G.ti el with|some tel=>if tel.size=1 then gy el p x H nx else none|none=>none
   |none=>none
  |none=>none
 | .max,_,l=>match Oi true l with|some p=>some (.pv p,[],nx)|none=>none
 | .min,_,l=>match Oi false l with|some p=>some (.pv p,[],nx)|none=>none
 | .append,ts::tx::_,[s,x]=>match G.ti ts,G.ti tx with
  |some ti,some oN=>match ti.td,oN.td with
   | .slice e,.slice _=>match G.ti e with|some te=>orT (uT te s x H nx) (orT (bf e te s x H nx) (nN te s x H nx))|none=>none
   | .slice e,.string=>match G.ti e with|some te=>orT (uT te s x H nx) (orT (bf e te s x H nx) (nN te s x H nx))|none=>none
   |_,_=>none
  |_,_=>none
 | .copy,ts::_,[s,x]=>match G.ti ts with
  |some ti=>match ti.td with
   | .slice e=>match G.ti e with|some te=>ZM te s x H nx|none=>none
   |_=>none
  |none=>none
 | .delete,tm::_,[m,k]=>match G.ti tm with
  |some ti=>match ti.td with
   | .map tk _=>match G.ti tk with
    |some tk=>match cj tk m k H with|some ws=>some (.xV [],ws,nx)|none=>none
    |none=>none
   |_=>none
  |none=>none
 |_,_,_=>none
def cL(G:GP)(t:TypeId):Option (TI×TI):=
 match G.ti t with
 |some ti=>match ti.td with
  | .map k e=>match G.ti k,G.ti e with
   |some tk,some te=>some (tk,te)
   |_,_=>none
  |_=>none
 |none=>none
def my(ws:Option (List (Nat×qE)))(nx:Nat):Option mC:=match ws with|some ws=>some (.xV [],ws,nx)|none=>none
def bG(v:Option AV)(nx:Nat):Option mC:=match v with|some v=>some (v,[],nx)|none=>none
def JD(v:Option PV)(nx:Nat):Option mC:=match v with|some v=>some (.pv v,[],nx)|none=>none
def isBytes(G:GP)(t:TypeId):Bool:=
 match G.ti t with
 |some ti=>match ti.td with
  | .slice e=>match G.ti e with
   |some te=>match te.td with
    | .int .u8=>true
    |_=>false
   |none=>false
  |_=>false
 |none=>false
def ZL(G:GP)(t:TypeId)(ti:TI)(nx:Nat):Option mC:=none
def tX(G:GP)(t:TypeId)(x:AV)(H:qr)(nx:Nat):Option mC:=none
def lu(G:GP)(t:TypeId)(m k x:AV)(H:qr)(nx:Nat):Option mC:=
 match cL G t with
 |some (tk,te)=>if x.slc=true then my (dZ tk m k x H) nx else none
 |none=>none
def aBox(GG:Bool)(c:List AV)(nx:Nat):Option mC:=
 if GG=true then match lv c with|some l=>some (.pv (.rp l),[],nx)|none=>none else some (.ptr nx 0,[(nx,.box c)],nx+1)
def mD(G:GP)(O:xm)(o:Op)(E:yp)(H:qr)(nx:Nat):Option mC:=
 match o with
 | .move x=>some (ev E x,[],nx)
 | .assign x=>some (ev E x,[],nx)
 | .pick c a b=>match ev E c with| .pv (.bool t)=>some (if t then ev E a else ev E b,[],nx)|_=>none
 | .alloc t=>match G.ti t with|some ti=>if G.ER t=true then ZL G t ti nx else some (.ptr nx 0,[(nx,.box (ti.zero.map .pv))],nx+1)|none=>none
 | .box t x=>if(ev E x).MN=true then aBox (G.GG t) (ev E x).cells nx else none
 | .build t parts=>match G.ti t with|some ti=>bG (KB ti G.ti (ev E) parts.toList) nx|none=>none
 | .buildSlice t len parts=>match G.ti t with
  |some ti=>match ti.td with
   | .slice e=>match G.ti e with
    |some te=>if 0<te.size/\len*te.size<=2^24 then if G.ER t=true then(match pX te.size (ev E) parts.toList (b? len (te.zero.map .pv))with
     |some es=>some (.row nx es.length 0 es.length,[(nx,.mB te.size es)],nx+1)
     |none=>none)else match rL te.size (ev E) parts.toList (b? len te.zero)with
     |some es=>some (.row nx es.length 0 es.length,[(nx,.row false te.size es)],nx+1)
     |none=>none
     else none
    |none=>none
   |_=>none
  |none=>none
 | .load t a=>match G.ti t with|some ti=>bG (QJ ti (ev E a) H) nx|none=>none
 | .store t a x=>match G.ti t with|some ti=>my (og ti (ev E a) (ev E x) H) nx|none=>none
 | .nilCheck x=>match ev E x with
  | .ptr β o=>some (.ptr β o,[],nx)
  | .tU c o=>some (.tU c o,[],nx)
  | .pv (.rp c)=>some (.pv (.rp c),[],nx)
  | .uI β v i o=>some (.uI β v i o,[],nx)
  | .pv (.fn f)=>some (.pv (.fn f),[],nx)
  | .Z5 f a b=>some (.Z5 f a b,[],nx)
  |_=>none
 | .binOp op t x y _=>match G.ti t with|some ti=>JD (PJ G.ti op ti (ev E x) (ev E y) H) nx|none=>none
 | .unOp op _ x=>JD (aUn op (ev E x)) nx
 | .convert s d x=>if s=d then tX G s (ev E x) H nx else match G.ti s,G.ti d with|some ts,some td=>rI ts.td td.td G.ti (ev E x) H nx|_,_=>none
 | .makeFunc (.func f) a b=>some (match a.toList,b.toList with|[],[]=> .pv (.fn f)|a,b=> .Z5 f (a.map (ev E)) (b.map (ev E)),[],nx)
 | .makeMap t none=>some (.map nx,[(nx,.map [] 0)],nx+1)
 | .slice t x lo hi mx=>match G.ti t with|some ti=>bG (ek ti.td G.ti (ev E) (ev E x) lo hi mx H) nx|none=>none
 | .fieldAddr t x f=>match G.ti t with|some ti=>bG (oe ti.td (ev E x) f) nx|none=>none
 | .field t x f=>match G.ti t with
  |some ti=>match ti.td with
   | .struct fs=>match fs[f]? with
    |some (off,_,tf)=>match G.ti tf with|some tif=>bG (Bw tif (ev E x) off) nx|none=>none
    |none=>none
   |_=>none
  |none=>none
 | .indexAddr t x i=>match G.ti t with|some ti=>bG (tG ti.td G.ti (ev E x) (ev E i) H) nx|none=>none
 | .index t x i=>match G.ti t with
  |some ti=>match ti.td,ev E x,vM (ev E i)with
   | .string,.pv (.str s),some k=>match s[k]? with|some b=>some (.pv (.int .u8 b.toNat),[],nx)|none=>none
   | .array len e,x,some k=>if k<len then match G.ti e with|some te=>bG (Bw te x (k*te.size)) nx|none=>none else none
   |_,_,_=>none
  |none=>none
 | .lookup t m k ok=>match cL G t with|some (tk,te)=>bG (if G.ER t=true then lr tk te (ev E m) (ev E k) ok H else aJ tk te (ev E m) (ev E k) ok H) nx|none=>none
 | .mapUpdate t m k x=>if G.ER t=true then lu G t (ev E m) (ev E k) (ev E x) H nx else match cL G t,WU (ev E x)with
  |some (tk,te),some p=>if p.cells.length=te.size then my (rJ tk (ev E m) (ev E k) p H) nx else none
  |_,_=>none
 | .insert t m k x=>match cL G t,WU (ev E x)with
  |some (tk,te),some p=>if p.cells.length=te.size then my (rJ tk (ev E m) (ev E k) p H) nx else none
  |_,_=>none
 | .mapEntry t m k=>match cL G t with
  |some (tk,te)=>match lq tk te (ev E m) (ev E k) H with|some (v,ws)=>some (v,ws,nx)|none=>none
  |none=>none
 | .entryStore _ m st x=>match WU (ev E x)with|some p=>my (bI (ev E m) (ev E st) p H) nx|none=>none
 | .extract t i=>match ev E t with
  | .xV l=>match l[i]? with|some v=>some (v,[],nx)|none=>none
  |_=>none
 | .call { callee:= .builtin b,args,argTypes }=>rH G b argTypes.toList (args.toList.map (ev E)) H nx
 | .call { callee:= .value f,args,.. }=>match ev E f with
  | .pv (.fn f)=>eQ O f (args.toList.map (ev E)) H nx
  | .Z5 f a b=>eQ O f (a++args.toList.map (ev E)++b) H nx
  |_=>none
 | .makeSlice t l c=>match G.ti t with|some ti=>sC ti.td G.ti (ev E l) (ev E c) nx|none=>none
 |_=>none
def NT(G:GP)(o:Op)(E:yp):List Nat:=
 match o with
 | .store _ a x=>match ev E a with| .uI _ _ _ _=>(ev E x).rows|_=>[]
 | .buildSlice t _ parts=>if G.ER t then[]else AV.rows.QV (parts.toList.map fun x=>ev E x.2)
 | .mapUpdate _ _ _ x=>(ev E x).rows
 | .insert _ _ _ x=>(ev E x).rows
 | .entryStore _ _ _ x=>(ev E x).rows
 | .call { callee:= .value f,args,.. }=>match ev E f with
  | .pv (.fn f)=>if G.owned f then[]else AV.rows.QV (args.toList.map (ev E))
  | .Z5 f _ _=>if G.owned f then[]else AV.rows.QV (args.toList.map (ev E))
  |_=>[]
 |_=>[]
def yC(all:List Oper)(o:Oper)(E:yp):Option Bool:=
 match o.guard with
 |none=>some true
 |some (j,want)=>match all[j]? with
  |some oj=>match oj.dst with
   |some d=>match E.get d with
    | .pv (.bool b)=>some (b==want)
    | .xV []=>some false
    |_=>none
   |none=>some false
  |none=>some false
def fq(d:Option Tmp)(v:AV)(E:yp):yp:=match d with|some d=>(d,v)::E|none=>E
def Xp(G:GP)(O:xm)(o:Oper)(s:St):Option St:=
 match mD G O o.op s.env s.heap s.nx with
 |some (v,ws,nx)=>some { env:=fq o.dst v s.env,heap:=qZ ws s.heap,nx:=nx }
 |none=>none
def XJ(G:GP)(O:xm)(all:List Oper):List Oper->St->Option St
 |[],s=>some s
 |o::r,s=>
  match yC all o s.env with
  |some true=>match Xp G O o (uW (NT G o.op s.env) s)with
   |some s' =>XJ G O all r s'
   |none=>none
  |some false=>XJ G O all r { s with env:=fq o.dst (.xV []) s.env }
  |none=>none
def tB(o:Op)(E:yp)(H:qr):List Nat:=
 match o with
 | .load _ a=>(ev E a).refs
 | .store _ a _=>(ev E a).refs
 | .binOp _ _ x y _=>(ev E x).refs++(ev E y).refs
 | .convert _ _ x=>(ev E x).refs
 | .slice _ x _ _ _=>(ev E x).refs
 | .indexAddr _ x _=>(ev E x).refs
 | .lookup _ m _ _=>(ev E m).refs
 | .mapUpdate _ m _ _=>(ev E m).refs
 | .insert _ m _ _=>(ev E m).refs
 | .mapEntry _ m _=>(ev E m).refs
 | .entryStore _ m _ _=>(ev E m).refs
 | .call { callee:= .builtin _,args,.. }=>AV.refs.pN (args.toList.map (ev E))
 | .call { callee:= .value f,args,.. }=>match ev E f with
  | .pv (.fn _)=>nU H 400 (AV.refs.pN (args.toList.map (ev E))) []
  | .Z5 _ a b=>nU H 400 (AV.refs.pN (a++args.toList.map (ev E)++b)) []
  |_=>[]
 |_=>[]
def Hz(ms:List Nat)(o:Oper):Nat:=o.after.toList.foldl (fun m e=>if Region.binds .any e=true then m ||| (1 <<< e.on) ||| ms.getD e.on 0 else m) 0
def wD(ms:List Nat):List Oper->List Nat
 |[]=>ms
 |o::r=>wD (ms++[Hz ms o]) r
def ordered(ms:List Nat)(i j:Nat):Bool:=(ms.getD j 0).testBit i
def JU:List Nat->List Nat->Bool
 |[],_=>true
 |x::r,L=> !Wz L x&&JU r L
def Qg(ms:List Nat)(j:Nat)(rd wr:List Nat):List (Nat×List Nat×List Nat)->Bool
 |[]=>true
 |(i,rdi,wri)::r=>(ordered ms i j || (JU wri rd&&JU wri wr&&JU rdi wr))&&Qg ms j rd wr r
def mK(ms:List Nat):List (Nat×List Nat×List Nat)->Bool
 |[]=>true
 |(j,rd,wr)::r=>Qg ms j rd wr r&&mK ms r
mutual
def PV.kD:PV->PV->Bool
 | .bool a,.bool b=>a==b
 | .int k a,.int l b=>decide (k=l)&&decide (a=b)
 | .str a,.str b=>decide (a=b)
 | .agg a,.agg b=>PV.av a b
 | .sl n z a,.sl m y b=>n==m&&decide (z=y)&&PV.cf a b
 | .yd,.yd=>true
 | .fh,.fh=>true
 | .bT,.bT=>true
 | .ia,.ia=>true
 | .fn f,.fn g=>decide (f=g)
 | .rp a,.rp b=>PV.av a b
 |_,_=>false
def PV.av:List PV->List PV->Bool
 |[],[]=>true
 |x::r,y::q=>PV.kD x y&&PV.av r q
 |_,_=>false
def PV.cf:List (List PV)->List (List PV)->Bool
 |[],[]=>true
 |x::r,y::q=>PV.av x y&&PV.cf r q
 |_,_=>false
end
def AV.kD:AV->AV->Bool
 | .pv a,.pv b=>PV.kD a b
 | .ptr b o,.ptr c q=>decide (b=c)&&decide (o=q)
 | .row b v o n,.row c w q m=>decide (b=c)&&decide (v=w)&&decide (o=q)&&decide (n=m)
 | .o5,.o5=>true
 | .map b,.map c=>decide (b=c)
 |_,_=>false
def AV.av:List AV->List AV->Bool
 |[],[]=>true
 |x::r,y::q=>AV.kD x y&&AV.av r q
 |_,_=>false
def AV.cf:List (List AV)->List (List AV)->Bool
 |[],[]=>true
 |x::r,y::q=>AV.av x y&&AV.cf r q
 |_,_=>false
def qE.kD:qE->qE->Bool
 | .box a,.box b=>AV.av a b
 | .row n z a,.row m y b=>n==m&&decide (z=y)&&PV.cf a b
 | .mB z a,.mB y b=>decide (z=y)&&AV.cf a b
 | .xw,.xw=>true
 |_,_=>false
def TN(H:qr)(β:Nat)(b:qE):Bool:=match H.get β with|some c=>qE.kD c b|none=>false
def trim(rd:List Nat):qr->List (Nat×qE)->List (Nat×qE)
 |_,[]=>[]
 |H,(β,b)::r=>if Wz rd β&&TN H β b then trim rd H r else(β,b)::trim rd (H.put β b) r
def eK(tm:Bool)(rd:List Nat)(H:qr)(ws:List (Nat×qE)):List (Nat×qE):=match tm with|true=>trim rd H ws|false=>ws
def Q8:List Nat->Bool
 |[]=>false
 |x::r=>x==999999 || Q8 r
def fc(G:GP)(O:xm)(all:List Oper)(tm:Bool):Nat->List Oper->St->List (Nat×List Nat×List Nat)->Option St
 |_,[],s,log=>if mK (wD [] all) log=true then some s else none
 |i,o::r,s,log=>
  match yC all o s.env with
  |some true=>match mD G O o.op s.env s.heap s.nx with
   |some (v,ws,nx)=>fc G O all tm (i+1) r ⟨fq o.dst v s.env,qZ (eK tm (tB o.op s.env s.heap) s.heap ws) s.heap,nx⟩ ((i,tB o.op s.env s.heap,(eK tm (tB o.op s.env s.heap) s.heap ws).map (·.1))::log)
   |none=>none
  |some false=>fc G O all tm (i+1) r { s with env:=fq o.dst (.xV []) s.env } log
  |none=>none
def restrict(E:yp):List Nat->yp
 |[]=>[]
 |t::r=>(t,E.get t)::restrict E r
def setEnv:yp->Nat->AV->yp
 |[],n,x=>[(n,x)]
 |(i,v)::r,n,x=>if i=n then(i,x)::r else(i,v)::setEnv r n x
def kc:List Nat->St->St
 |[],s=>s
 |t::r,s=>match s.env.get t with
  | .pv (.sl true _ [])=>kc r { env:=setEnv s.env t (.row s.nx 0 0 0),heap:=qr.put s.heap s.nx (.row true 0 []),nx:=s.nx+1 }
  |_=>kc r s
def xe:List (Nat×Nat)->St->St
 |[],s=>s
 |(t,k)::r,s=>match s.env.get t with
  | .ptr β o=>match s.heap.get β with
   |some (.box c)=>match c[o+k]? with
    |some (.pv (.sl true _ []))=>
     xe r { env:=s.env,heap:=qr.put (qr.put s.heap s.nx (.row true 0 [])) β (.box (c.set (o+k) (.row s.nx 0 0 0))),nx:=s.nx+1 }
    |_=>xe r s
   |_=>xe r s
  |_=>xe r s
def Cu(H:qr):AV->List Nat
 | .ptr β _=>match H.get β with
  |some (.box c)=>AV.rows.QV c
  |_=>[]
 |v=>v.rows
def BJ(H:qr)(k:Nat):AV->List Nat
 | .ptr β o=>match H.get β with
  |some (.box c)=>match c[o+k]? with|some v=>v.rows|none=>[]
  |_=>[]
 |_=>[]
def dq(E:yp)(H:qr):List Nat->List Nat
 |[]=>[]
 |t::r=>(if t<1000 then Cu H (E.get t)else BJ H (t / 1000-1) (E.get (t % 1000)))++dq E H r
def enter(sp:pF)(s:St):St:=
 let s1:=xe sp.xe (kc sp.kc s)
 let s2:=uW (dq s1.env s1.heap sp.freeze) s1
 { s2 with env:=restrict s2.env sp.XZ }
def cz(n:Nat):List Nat->Bool
 |[]=>true
 |x::r=>decide (x<n)&&cz n r
def yp.below(n:Nat):yp->Bool
 |[]=>true
 |(_,v)::r=>cz n v.refs&&yp.below n r
def qr.upto(n:Nat):qr->qr
 |[]=>[]
 |(i,b)::r=>if i<n then(i,b)::qr.upto n r else qr.upto n r
def qr.below(n:Nat):qr->Bool
 |[]=>true
 |(_,b)::r=>cz n b.refs&&qr.below n r
def narrow(V4:List Nat)(n:Nat)(s:St):Option St:=
 let E:=restrict s.env V4
 let H:=qr.upto n s.heap
 if yp.below n E&&qr.below n H then some ⟨E,H,n⟩else none
def i9(V4:List Nat)(n:Nat)(s:St):St:=
 match narrow V4 n s with
 |some s' =>s'
 |none=>{ s with env:=restrict s.env V4 }
def RK(g:Nat->Nat):yp->yp
 |[]=>[]
 |(t,v)::r=>(t,v.cq g)::RK g r
def Uq:yp->List Nat
 |[]=>[]
 |(_,v)::r=>v.refs++Uq r
def canon(V4:List Nat)(n:Nat)(s:St):Option St:=
 match sj s.heap (E? n) (Uq (restrict s.env V4))with
 |some (L,H')=>some ⟨RK (pos L) (restrict s.env V4),H',H'.length⟩
 |none=>none
def ez(sp:pF)(s:St):Option St:=
 if sp.own=1000 then some (enter sp s)else
 match sp.own with
 |0=>some (enter sp s)
 |k+1=>match canon sp.XZ s.nx (enter sp s)with
  |some s1=>if s1.nx=s.nx+(k+1)then some s1 else none
  |none=>none
def bh(sp:pF)(n:Nat)(s:St):Option St:=if n<=s.nx then some { s with env:=restrict s.env sp.XZ }else none
def again(sp:pF)(n:Nat)(s' :St):Option St:=
 if sp.own=1000 then bh sp n (xe sp.xe (kc sp.kc s'))else
 match sp.own with
 |0=>narrow sp.XZ n s'
 |k+1=>match canon sp.XZ (n-(k+1)) (xe sp.xe (kc sp.kc s'))with
  |some s1=>if s1.nx=n then some s1 else none
  |none=>none
def leave(sp:pF)(n:Nat)(s' :St):Option St:=
 if sp.own=1000 then some { s' with env:=restrict s'.env sp.out }else
 match sp.own with
 |0=>some (i9 sp.out n s')
 |k+1=>canon sp.out (n-(k+1)) s'
def left(ex:Ex):Option St->Option (Ex×St)
 |some s=>some (ex,s)
 |none=>none
def zH:Code->Nat->Option Code
 | .seq a b,i=>match zH a i with|some c=>some c|none=>zH b i
 | .block id (.loop c),i=>if id=i then some c else zH c i
 | .block _ c,i=>zH c i
 | .cond _ a b,i=>match zH a i with|some c=>some c|none=>zH b i
 | .loop c,i=>zH c i
 |_,_=>none
def pres(G:GP)(f:FuncId)(id:Nat)(s:St):St:=uW (dq s.env s.heap (G.pre f id)) s
def exec(G:GP)(O:xm)(f:FuncId):Code->St->Option (Ex×St)
 | .skip,s=>some (.normal,s)
 | .region id ops false,s=>match XJ G O ops.toList ops.toList (pR (G.cmd f (2*id)) s)with|some s' =>some (.normal,pR (G.cmd f (2*id+1)) s')|none=>none
 | .region id ops true,s=>match fc G O ops.toList (Q8 (G.pre f id)) 0 ops.toList (pres G f id (pR (G.cmd f (2*id)) s)) []with|some s' =>some (.normal,pR (G.cmd f (2*id+1)) s')|none=>none
 | .seq a b,s=>match exec G O f a s with
  |some (.normal,s')=>exec G O f b s'
  |some (.ret,s')=>some (.ret,s')
  |some (.exit i,s')=>some (.exit i,s')
  |none=>none
 | .cond c t e,s=>match ev s.env c with
  | .pv (.bool b)=>match b with
   |true=>exec G O f t s
   |false=>exec G O f e s
  |_=>none
 | .block id (.loop _),s=>match ez (G.spec f id) s with
  |some s1=>O.loop f id s1
  |none=>none
 | .block id c,s=>match exec G O f c s with
  |some (.exit i,s')=>if i=id then some (.normal,s')else some (.exit i,s')
  |some (.normal,s')=>some (.normal,s')
  |some (.ret,s')=>some (.ret,s')
  |none=>none
 | .exit id,s=>some (.exit id,s)
 | .ret,s=>some (.ret,s)
 |_,_=>none
def mR(G:GP)(O:xm)(f:FuncId)(id:Nat)(s:St):Option (Ex×St):=
 match G.fn f with
 |none=>none
 |some fi=>match zH fi.body id with
  |none=>none
  |some c=>match exec G O f c s with
   |some (.normal,s')=>match again (G.spec f id) s.nx (uW (dq s'.env s'.heap (G.spec f id).freeze) s')with
    |some s'' =>O.loop f id s''
    |none=>none
   |some (.exit i,s')=>if i=id then left .normal (leave (G.spec f id) s.nx s')else left (.exit i) (leave (G.spec f id) s.nx s')
   |some (.ret,s')=>left .ret (leave (G.spec f id) s.nx s')
   |none=>none
def Uu(G:GP)(s:St):ResultVar->Option AV
 | .tmp t=>some (s.env.get t)
 | .cell a t=>match G.ti t with|some ti=>QJ ti (s.env.get a) s.heap|none=>none
def aj(G:GP)(s:St):List ResultVar->Option (List AV)
 |[]=>some []
 |r::l=>match Uu G s r,aj G s l with
  |some v,some vs=>some (v::vs)
  |_,_=>none
def Q9:List AV->AV
 |[v]=>v
 |l=> .xV l
def unz:AV->AV
 | .o5=> .pv (.sl false 0 [])
 |v=>v
def finish(m:Nat)(sm:Bool)(v:AV)(s:St):Option (AV×qr):=
 let s1:=if sm then{ s with env:=[(0,v)] }else uW v.rows { s with env:=[(0,v)] }
 let v1:=unz (s1.env.get 0)
 match sj s1.heap (E? m) v1.refs with
 |some (L,H)=>some (v1.cq (pos L),H)
 |none=>none
def rK:Nat->List AV->yp
 |_,[]=>[]
 |i,v::r=>(i,v)::rK (i+1) r
def Q2(G:GP)(O:xm)(f:FuncId)(args:List AV)(H:qr):Option (AV×qr):=
 match G.fn f with
 |none=>none
 |some fi=>if uL 0 H=true then match exec G O f fi.body ⟨rK 0 args,H,H.length⟩with
  |some (.exit _,_)=>none
  |some (_,s)=>match aj G (pR (G.cmd f 999999) s) fi.results with
   |some vs=>finish H.length (G.sm f) (Q9 vs) (pR (G.cmd f 999999) s)
   |none=>none
  |none=>none
  else none
structure pj where
 call:FuncId->Option (List AV->qr->Option (AV×qr))
def WM(G:GP)(S:pj):Nat->xm
 |0=>⟨fun _ _ _=>none,fun _ _ _=>none⟩
 |n+1=>⟨fun f args H=>match S.call f with|some g=>g args H|none=>Q2 G (WM G S n) f args H,fun f id s=>mR G (WM G S n) f id s⟩
set_option linter.unusedSectionVars false
def PV.kP:PV->Bool
 | .agg _=>false
 |_=>true
def AV.kP:AV->Bool
 | .pv p=>p.kP
 | .agg _| .xV _| .undef=>false
 |_=>true
def dD:Value->Bool
 | .agg _| .tuple _=>false
 |_=>true
inductive Sk where
 |leaf
 |node (b cap:Nat) (ks:List Sk)
 deriving Inhabited
structure Pl where
 b:Nat
 cap:Nat
 ks:List Sk:=[]
def Pl.kD(p q:Pl):Prop:=p.b=q.b/\p.cap=q.cap
theorem Pl.Ja(p:Pl):p.kD p:=⟨rfl,rfl⟩
theorem Pl.RV{p q r:Pl}(h1:p.kD q)(h2:q.kD r):p.kD r:=⟨h1.1.trans h2.1,h1.2.trans h2.2⟩
def Sk.blocks:Sk->List Nat
 | .leaf=>[]
 | .node b _ ks=>b::ks.flatMap Sk.blocks
abbrev yq:=Nat->Pl
def wC(fz:Nat×Nat)(n:Nat):Prop:=fz.1<=fz.2/\ ∀i,i<n-> ¬(fz.1<=i/\i<fz.2)
inductive RP (w:World) (Im:Nat->Prop):PV->Value->Prop
 |bool (b:Bool):RP w Im (.bool b) (.bool b)
 |int (k:IntKind) (n:Int):RP w Im (.int k n) (.int k n)
 |str (l:List UInt8):RP w Im (.str l) (.string ⟨⟨l⟩⟩)
 |agg (c:List PV) (vs:List Value) (hl:c.length=vs.length) (hf: ∀p∈c,p.kP=true)
   (h: ∀(i:Nat) p v,c[i]? =some p->vs[i]? =some v->RP w Im p v):RP w Im (.agg c) (.agg ⟨vs⟩)
 |aS (sz:Nat):RP w Im (.sl true sz []) (.slice none 0 0)
 |sl (sz:Nat) (es:List (List PV)) (b off cap:Nat) (vs:Nat->Value) (QF:es≠[]->Im b) (JX:es.length<=cap)
   (mr: ∀e∈es,e.length=sz) (hc: ∀i,i<es.length*sz->w.cell? ⟨b,off+i,none⟩=some (vs i))
   (hf: ∀(i:Nat) e(j:Nat) p,es[i]? =some e->e[j]? =some p->p.kP=true)
   (h: ∀(i:Nat) e(j:Nat) p,es[i]? =some e->e[j]? =some p->RP w Im p (vs (i*sz+j)))
   (sp:Option Nat) (C2:es≠[]->sp=none):RP w Im (.sl false sz es) (.slice (some ⟨b,off,sp⟩) es.length cap)
 |yd:RP w Im .yd (.pointer none)
 |fh:RP w Im .fh .nilFunc
 |bT:RP w Im .bT (.map none)
 |ia:RP w Im .ia .nilIface
 |fn (f:FuncId):RP w Im (.fn f) (.func (.func f) #[] #[])
 |rp (c:List PV) (b off:Nat) (vs:Nat->Value) (QF:Im b) (hc: ∀i,i<c.length->w.cell? ⟨b,off+i,none⟩=some (vs i))
   (hf: ∀p∈c,p.kP=true) (h: ∀(i:Nat) p,c[i]? =some p->RP w Im p (vs i)):RP w Im (.rp c) (.pointer (some ⟨b,off,none⟩))
inductive l5 (w:World) (Im:Nat->Prop):List Nat->PV->Value->Sk->Prop
 |V0 (p:PV) (v:Value) (hs:p.V0=true) (h:RP w Im p v):l5 w Im [] p v .leaf
 |nil (d:Nat) (ds:List Nat):l5 w Im (d::ds) (.sl true 0 []) (.slice none 0 0) .leaf
 |sl (d:Nat) (ds:List Nat) (es:List (List PV)) (b o cap:Nat) (ks:List Sk) (vs:Array Value) (elem:TypeId) (fz:Nat×Nat) (hb:w.heap[b]? =some (.cells vs elem fz)) (hfz:wC fz vs.size)
   (EL:vs.size=cap*d) (hd:0<d) (hle:es.length<=cap) (ho:0<cap->o=0) (dm: ∀e∈es,e.length=d) (Ng:ks.length=es.flatten.length)
   (val:Nat->Value) (K1: ∀i,i<es.flatten.length->vs[i]? =some (val i)) (h: ∀(i:Nat) p k,es.flatten[i]? =some p->ks[i]? =some k->l5 w Im ds p (val i) k):
   l5 w Im (d::ds) (.sl false (zV d es) es) (.slice (some ⟨b,o,none⟩) es.length cap) (.node b cap ks)
theorem RP.mk{w:World}{Im:Nat->Prop}{b:Bool}{sz:Nat}{es:List (List PV)}{v:Value}(h:RP w Im (.sl b sz es) v):RP w Im (A0 b sz es) v:=by
 cases es with
 |cons _ _=>exact h
 |nil=>cases h with
  |aS=>exact .aS 0
  |sl _ _ b off cap vs QF JX mr hc hf hh sp C2=>exact .sl 0 [] b off cap vs (fun h=>absurd rfl h) (B! _) z? (fun i xJ=>by simp at xJ) z? z? sp (fun h=>absurd rfl h)
def qE.LZ:qE->Bool
 | .box _=>true
 |_=>false
inductive RA (w:World) (H:qr) (ι:yq) (Im:Nat->Prop):AV->Value->Prop
 |undef (v:Value):RA w H ι Im .undef v
 |pv (p:PV) (v:Value) (h:RP w Im p v):RA w H ι Im (.pv p) v
 |ptr (β o:Nat) (b:qE) (hb:H.get β=some b) (hk:b.LZ=true):RA w H ι Im (.ptr β o) (.pointer (some ⟨(ι β).b,o,none⟩))
 |uI (β xf i o b' o' :Nat) (b:qE) (hb:H.get β=some b) (jA: ∀qu sz l,b.sh=some (qu,sz,l)->xf<=l)
   (h: ∀qu sz l,b.sh=some (qu,sz,l)->xf=l->qu=false->b' =(ι β).b/\o' =i*sz+o):
   RA w H ι Im (.uI β xf i o) (.pointer (some ⟨b',o',none⟩))
 |row (β xf off n:Nat) (v:Value) (b:qE) (ho:dD v=true) (hb:H.get β=some b) (hk:b≠ .xw-> ∃qu sz l,b.sh=some (qu,sz,l))
   (jA: ∀qu sz l,b.sh=some (qu,sz,l)->xf<=l)
   (h: ∀qu sz l,b.sh=some (qu,sz,l)->xf=l->off+n<=l/\
    if qu=true then v= .slice none 0 0
    else ∃a,v= .slice (some a) n ((ι β).cap-off)/\a.spot=none/\a.block=(ι β).b/\(off<(ι β).cap->a.off=off*sz)):
   RA w H ι Im (.row β xf off n) v
 |tU (c:List PV) (o b off:Nat) (vs:Nat->Value) (QF:Im b) (hc: ∀i,i<c.length->w.cell? ⟨b,off+i,none⟩=some (vs i))
   (hf: ∀p∈c,p.kP=true) (h: ∀(i:Nat) p,c[i]? =some p->RP w Im p (vs i)):
   RA w H ι Im (.tU c o) (.pointer (some ⟨b,off+o,none⟩))
 |o5 (a:Addr):RA w H ι Im .o5 (.slice (some a) 0 0)
 |map (β:Nat) (es:List (PV×PV×Nat)) (zR:Nat) (hb:H.get β=some (.map es zR)):RA w H ι Im (.map β) (.map (some (ι β).b))
 |Z5 (f:FuncId) (a b:List AV) (va vb:List Value) (VT:a.length=va.length) (SX:b.length=vb.length)
   (ha: ∀(i:Nat) x v,a[i]? =some x->va[i]? =some v->RA w H ι Im x v)
   (hb: ∀(i:Nat) x v,b[i]? =some x->vb[i]? =some v->RA w H ι Im x v):RA w H ι Im (.Z5 f a b) (.func (.func f) ⟨va⟩ ⟨vb⟩)
 |agg (c:List AV) (vs:List Value) (hl:c.length=vs.length) (hf: ∀x∈c,x.kP=true)
   (h: ∀(i:Nat) x v,c[i]? =some x->vs[i]? =some v->RA w H ι Im x v):RA w H ι Im (.agg c) (.agg ⟨vs⟩)
 |xV (c:List AV) (vs:List Value) (hl:c.length=vs.length)
   (h: ∀(i:Nat) x v,c[i]? =some x->vs[i]? =some v->RA w H ι Im x v):RA w H ι Im (.xV c) (.tuple ⟨vs⟩)
def qE.used:qE->Bool
 | .box _=>true
 | .row qu _ _=> !qu
 | .map _ _=>true
 | .mB _ _=>true
 | .jf qu _ _ _=> !qu
 | .xw=>false
def qE.C7:qE->Bool
 | .jf _ _ _ _=>true
 |_=>false
def qE.yc(b:qE)(p:Pl)(x:Nat):Prop:=b.used=true/\(x=p.b\/b.C7=true/\x∈p.ks.flatMap Sk.blocks)
def rE(w:World)(H:qr)(ι:yq)(Im:Nat->Prop)(β:Nat):qE->Prop
 | .box c=> ∃vs elem fz,w.heap[(ι β).b]? =some (.cells vs elem fz)/\wC fz vs.size/\c.length=vs.size/\
   (∀ x∈c,x.kP=true)/\ ∀(i:Nat) x v,c[i]? =some x->vs[i]? =some v->RA w H ι Im x v
 | .row true _ es=>es=[]
 | .row false sz es=> ∃vs elem fz,w.heap[(ι β).b]? =some (.cells vs elem fz)/\wC fz vs.size/\vs.size=(ι β).cap*sz/\0<sz/\
   es.length<=(ι β).cap/\(∀ e∈es,e.length=sz)/\(∀(i:Nat) e(j:Nat) p,es[i]? =some e->e[j]? =some p->p.kP=true)/\
   ∀(i:Nat) e(j:Nat) p,es[i]? =some e->e[j]? =some p-> ∃v,vs[i*sz+j]? =some v/\RP w Im p v
 | .map es zR=> ∃xi:List MapEntry,w.heap[(ι β).b]? =some (.map ⟨xi⟩ zR)/\es.length=xi.length/\
   ∀(i:Nat)(k x:PV)(born:Nat) e,es[i]? =some (k,x,born)->xi[i]? =some e->RP w Im k e.key/\RP w Im x e.val/\e.born=born
 | .mB sz es=> ∃vs elem fz,w.heap[(ι β).b]? =some (.cells vs elem fz)/\wC fz vs.size/\vs.size=(ι β).cap*sz/\0<sz/\
   es.length<=(ι β).cap/\(∀ e∈es,e.length=sz)/\(∀(i:Nat) e(j:Nat) x,es[i]? =some e->e[j]? =some x->x.kP=true)/\
   ∀(i:Nat) e(j:Nat) x,es[i]? =some e->e[j]? =some x-> ∃v,vs[i*sz+j]? =some v/\RA w H ι Im x v
 | .jf true _ es lg=>es=[]/\lg=none
 | .jf false ds es lg=> ∃vs elem fz,w.heap[(ι β).b]? =some (.cells vs elem fz)/\wC fz vs.size/\vs.size=(ι β).cap/\es.length<=(ι β).cap/\(ι β).ks.length=es.length/\
   ((ι β).b::(ι β).ks.flatMap Sk.blocks).Nodup/\(∀ x∈(ι β).ks.flatMap Sk.blocks,x<w.heap.size)/\(∀ j γ xf,lg=some (j,γ,xf)->j<es.length)/\
   ∀(i:Nat) p k,es[i]? =some p->(ι β).ks[i]? =some k-> ∃v,vs[i]? =some v/\
    ((∀ j γ xf,lg=some (j,γ,xf)->i≠j)->l5 w Im ds p v k)/\(∀ γ xf,lg=some (i,γ,xf)->k= .leaf/\RA w H ι Im (.row γ xf 0 xf) v)
 | .xw=>True
class xg where
 ok:World->Prop
 on:Nat->Prop
 frame: ∀{w w' :World},ok w->(∀ b,on b->w'.heap[b]? =w.heap[b]?)->ok w'
instance(priority:=low) noGlobs:xg:=⟨fun _=>True,fun _=>False,fun _ _=>trivial⟩
structure zc [xg] (w:World) (H:qr) (ι:yq) (Im:Nat->Prop):Prop where
 rB: ∀β b,H.get β=some b->rE w H ι Im β b
 inj: ∀β β' b b' x,H.get β=some b->H.get β' =some b' ->b.yc (ι β) x->b'.yc (ι β') x->β=β'
 im: ∀b,Im b->b<w.heap.size
 Vt: ∀β b x,H.get β=some b->b.yc (ι β) x-> ¬Im x
 Na:xg.ok w
 VP: ∀b,xg.on b->Im b
theorem xg.go[xg]{w w' :World}{Im:Nat->Prop}(h:xg.ok w)(h2: ∀b,xg.on b->Im b)(hk: ∀b,Im b->w'.heap[b]? =w.heap[b]?):xg.ok w' :=xg.frame h fun b hb=>hk b (h2 b hb)
def xS(x y:qE)(p q:Pl):Prop:=
 match x.sh,y.sh with
 |some (qu,sz,l),some (rQ,Sa,l')=>l<=l' /\(l=l' ->qu=rQ/\(qu=false->sz=Sa/\p.kD q))
 |some _,none=>y= .xw
 |none,some _=>False
 |none,none=>match x,y with
  | .box _,.box _=>p=q
  | .map _ _,.map _ _=>p=q
  | .xw,.xw=>True
  |_,_=>False
theorem Qh{x y:qE}{p q:Pl}{qu rQ:Bool}{sz Sa l l' :Nat}(hx:x.sh=some (qu,sz,l))(hy:y.sh=some (rQ,Sa,l')):
  xS x y p q=(l<=l' /\(l=l' ->qu=rQ/\(qu=false->sz=Sa/\p.kD q))):=by unfold xS;rw[hx,hy]
theorem Qi{x y:qE}{p q:Pl}(h:xS x y p q){qu:Bool}{sz l:Nat}(hy:y.sh=some (qu,sz,l)): ∃oF sz0 l0,x.sh=some (oF,sz0,l0):=by cases hx:x.sh with|some q=>exact⟨_,_,_,rfl⟩|none=>unfold xS at h;rw[hx,hy]at h;exact(h:False).elim
theorem BS{x y:qE}{p q:Pl}(h:xS x y p q){qu:Bool}{sz l:Nat}(hx:x.sh=some (qu,sz,l)):y= .xw\/ ∃oF sz0 l0,y.sh=some (oF,sz0,l0):=by unfold xS at h;rw[hx]at h;cases hy:y.sh with|none=>rw[hy]at h;exact .inl h|some q=>exact .inr ⟨_,_,_,rfl⟩
structure wR (w:World) (H:qr) (ι:yq) (Im:Nat->Prop) (w' :World) (H' :qr) (ι' :yq) (jV:Nat->Prop):Prop where
 comp: ∀β b,H.get β=some b-> ∃b',H'.get β=some b' /\xS b b' (ι β) (ι' β)
 im: ∀b,Im b->jV b
 ta: ∀b,jV b->Im b\/w.heap.size<=b\/ ∃β x,H.get β=some x/\x.yc (ι β) b
 nT: ∀β x z,H'.get β=some x->x.yc (ι' β) z->w.heap.size<=z\/ ∃β0 x0,H.get β0=some x0/\x0.yc (ι β0) z
 kD: ∀b,b<w.heap.size->(∀ β x,H.get β=some x-> ¬x.yc (ι β) b)->w'.heap[b]? =w.heap[b]?
 size:w.heap.size<=w'.heap.size
 io:w'.os=w.os/\w'.output=w.output
theorem uU(b:qE)(p:Pl):xS b b p p:=by unfold xS;cases h:b.sh with|some q=>exact⟨jx _,fun _=>⟨rfl,fun _=>⟨rfl,p.Ja⟩⟩⟩|none=>cases b<;>first|(simp only[qE.sh]at h;cases h;done)|rfl|exact trivial
theorem ZQ{x y z:qE}{p q r:Pl}(h1:xS x y p q)(h2:xS y z q r):xS x z p r:=by
 have key: ∀{i1 i2 i3:Bool}{s1 s2 s3 l1 l2 l3:Nat},(l1<=l2/\(l1=l2->i1=i2/\(i1=false->s1=s2/\p.kD q)))->(l2<=l3/\(l2=l3->i2=i3/\(i2=false->s2=s3/\q.kD r)))->
   (l1<=l3/\(l1=l3->i1=i3/\(i1=false->s1=s3/\p.kD r))):=by
  intro i1 i2 i3 s1 s2 s3 l1 l2 l3 h1 h2;obtain⟨a1,b1⟩:=h1;obtain⟨a2,b2⟩:=h2;refine⟨n! a1 a2,fun e=>?_⟩;obtain⟨i1,j1⟩:=b1 o?;obtain⟨i2,j2⟩:=b2 o?;refine⟨i1.trans i2,fun hn=>?_⟩;obtain⟨k1,l1⟩:=j1 hn;obtain⟨k2,l2⟩:=j2 (i1 ▸ hn);exact⟨k1.trans k2,Pl.RV l1 l2⟩
 unfold xS at h1 h2 |-;cases hx:x.sh with|some a=>(obtain⟨i1,s1,l1⟩:=a;rw[hx]at h1;cases hy:y.sh with|some b=>(obtain⟨i2,s2,l2⟩:=b;rw[hy]at h1 h2;cases hz:z.sh with|some c=>obtain⟨i3,s3,l3⟩:=c;rw[hz]at h2;exact key h1 h2|none=>rw[hz]at h2;exact h2)|none=>rw[hy]at h1 h2;have hd:y= .xw:=h1;subst hd;cases hz:z.sh with|some c=>rw[hz]at h2;exact(h2:False).elim|none=>rw[hz]at h2;cases z<;>first|rfl|exact(h2:False).elim)|none=>rw[hx]at h1;cases hy:y.sh with|some b=>rw[hy]at h1;exact(h1:False).elim|none=>rw[hy]at h1 h2;cases hz:z.sh with|some c=>rw[hz]at h2;exact(h2:False).elim|none=>rw[hz]at h2;cases x<;>cases y<;>first|exact(h1:False).elim|(cases z<;>first|exact(h2:False).elim|exact trivial|exact Eq.trans (h1:p=q) (h2:q=r))
theorem wR.refl(w:World)(H:qr)(ι:yq)(Im:Nat->Prop):wR w H ι Im w H ι Im where
 comp:=fun β b h=>⟨b,h,uU b _⟩
 im:=fun _ h=>h
 ta:=fun _ h=> .inl h
 nT:=fun β x z h hu=> .inr ⟨β,x,h,hu⟩
 kD:=fun _ _ _=>rfl
 size:=jx _
 io:=⟨rfl,rfl⟩
theorem wR.trans{w w1 w2:World}{H H1 H2:qr}{ι ι1 ι2:yq}{Im o6 GC:Nat->Prop}
  (h1:wR w H ι Im w1 H1 ι1 o6) (h2:wR w1 H1 ι1 o6 w2 H2 ι2 GC):wR w H ι Im w2 H2 ι2 GC where
 comp:=fun β b h=>by obtain⟨b1,g1,c1⟩:=h1.comp β b h;obtain⟨b2,g2,c2⟩:=h2.comp β b1 g1;exact⟨b2,g2,ZQ c1 c2⟩
 im:=fun b h=>h2.im b (h1.im b h)
 ta:=fun b h=>by rcases h2.ta b h with h|h|⟨β,x,hx,hu⟩;exact h1.ta b h;exact .inr (.inl (n! h1.size h));rcases h1.nT β x b hx hu with h|⟨β0,x0,g,LH⟩;exact .inr (.inl h);exact .inr (.inr ⟨β0,x0,g,LH⟩)
 nT:=fun β x z h hu=>by rcases h2.nT β x z h hu with h|⟨β0,x0,g,LH⟩;exact .inl (n! h1.size h);exact h1.nT β0 x0 z g LH
 kD:=fun b hb hn=>by
  have e1:=h1.kD b hb hn;have e2:=h2.kD b (U! hb h1.size) (fun β x hx hu=>by
   rcases h1.nT β x b hx hu with h|⟨β0,x0,g,LH⟩
   ·omega
   exact hn β0 x0 g LH)
  exact e2.trans e1
 size:=n! h1.size h2.size
 io:=⟨h2.io.1.trans h1.io.1,h2.io.2.trans h1.io.2⟩
theorem wR.bh[xg]{w w1:World}{H H1:qr}{ι ι1:yq}{Im o6:Nat->Prop}(hi:zc w H ι Im)
  (h:wR w H ι Im w1 H1 ι1 o6) (b:Nat) (hb:Im b):w1.heap[b]? =w.heap[b]? :=
 h.kD b (hi.im b hb) fun β x hx hu=>hi.Vt β x b hx hu hb
theorem oq{w w1:World}{b:Nat}(h:w1.heap[b]? =w.heap[b]?)(o:Nat):w1.cell? ⟨b,o,none⟩=w.cell? ⟨b,o,none⟩:=by simp only[J',h]
theorem RP.mono{w w' :World}{Im jV:Nat->Prop}(hi: ∀b,Im b->jV b)(hw: ∀b,Im b->w'.heap[b]? =w.heap[b]?)
  {p:PV} {v:Value} (h:RP w Im p v):RP w' jV p v:=by induction h with|bool b=>exact .bool b|int k n=>exact .int k n|str l=>exact .str l|agg c vs hl hf _ ih=>exact .agg c vs hl hf ih|aS sz=>exact .aS sz|sl sz es b off cap vs QF JX mr hc hf _ sp C2 ih=>(refine .sl sz es b off cap vs (fun jz=>hi b (QF jz)) JX mr (fun i xJ=>?_) hf ih sp C2;have jz:es≠[]:=by intro e;subst e;simp at xJ);exact(oq (hw b (QF jz)) _).trans (hc i xJ)|yd=>exact .yd|fh=>exact .fh|bT=>exact .bT|ia=>exact .ia|fn f=>exact .fn f|rp c b off vs QF hc hf _ ih=>exact .rp c b off vs (hi b QF) (fun i xJ=>(oq (hw b QF) _).trans (hc i xJ)) hf ih
theorem RA.mono[xg]{w w' :World}{H H' :qr}{ι ι' :yq}{Im jV:Nat->Prop}(hi:zc w H ι Im)(he:wR w H ι Im w' H' ι' jV)
  {x:AV} {v:Value} (h:RA w H ι Im x v):RA w' H' ι' jV x v:=by have hw: ∀b,Im b->w'.heap[b]? =w.heap[b]? :=fun b hb=>he.bh hi b hb;induction h with|undef v=>exact .undef v|pv p v h=>exact .pv p v (h.mono he.im hw)|ptr β o b hb hk=>(obtain⟨b',g,hc⟩:=he.comp β _ hb;cases b<;>simp only[qE.LZ,ko]at hk<;>cases b' <;>first|exact(hc:False).elim|(have GH:ι β=ι' β:=hc;rw[GH];exact .ptr β o _ g rfl))|uI β xf i o b1 o1 b hb jA h=>obtain⟨b',g,hc⟩:=he.comp β _ hb;refine .uI β xf i o b1 o1 b' g ?_ ?_;intro qu sz l e;obtain⟨oF,sz0,l0,e0⟩:=Qi hc e;rw[Qh e0 e]at hc;exact n! (jA _ _ _ e0) hc.1;intro qu sz l e hv hn;obtain⟨oF,sz0,l0,e0⟩:=Qi hc e;rw[Qh e0 e]at hc;have hle:=jA _ _ _ e0;have hl:l0=l:=o?;obtain⟨K0,hs⟩:=hc.2 hl;obtain⟨hs,hp⟩:=hs (by rw[K0];exact hn);obtain⟨g1,g2⟩:=h oF sz0 l0 e0 o? (by rw[K0];exact hn);exact⟨by rw[g1,hp.1],by rw[g2,hs]⟩|row β xf off n v b ho hb hk jA h=>obtain⟨b',g,hc⟩:=he.comp β _ hb;refine .row β xf off n v b' ho g ?_ ?_ ?_;intro hd;by_cases h0:b= .xw;(subst h0;cases b' with|xw=>exact absurd rfl hd|_=>exact(hc:False).elim);obtain⟨_,_,_,e0⟩:=hk h0;rcases BS hc e0 with h|h;exact absurd h hd;exact h;intro qu sz l e;obtain⟨oF,sz0,l0,e0⟩:=Qi hc e;rw[Qh e0 e]at hc;exact n! (jA _ _ _ e0) hc.1;intro qu sz l e hv;obtain⟨oF,sz0,l0,e0⟩:=Qi hc e;rw[Qh e0 e]at hc;have hle:=jA _ _ _ e0;have hl:l0=l:=o?;obtain⟨K0,hs⟩:=hc.2 hl;obtain⟨h1,h2⟩:=h oF sz0 l0 e0 o?;refine⟨o?, ?_⟩;cases hn:qu;obtain⟨hs,hp⟩:=hs (by rw[K0];exact hn);rw[K0,hn]at h2;rw[<- hp.1,<- hp.2,<- hs];exact h2;rw[K0,hn]at h2;exact h2|tU c o b off vs QF hc hf h=>exact .tU c o b off vs (he.im b QF) (fun i xJ=>(oq (hw b QF) _).trans (hc i xJ)) hf fun i p hp=>(h i p hp).mono he.im hw|o5 a=>exact .o5 a|map β es zR hb=>(obtain⟨b',g,hc⟩:=he.comp β _ hb;cases b' <;>first|exact(hc:False).elim|(have GH:ι β=ι' β:=hc;rw[GH];exact .map β _ _ g))|Z5 f a b va vb VT SX _ _ iha ihb=>exact .Z5 f a b va vb VT SX iha ihb|agg c vs hl hf _ ih=>exact .agg c vs hl hf ih|xV c vs hl _ ih=>exact .xV c vs hl ih
def K8(P:Program):TypeDesc->Option TD
 | .struct fs=>some (.struct (fs.toList.map fun f=>(f.offset,P.cellsOf f.type,f.type)))
 | .array n e=>some (.array n e)
 | .slice e=>some (.slice e)
 | .map k e=>some (.map k e)
 | .bool=>some .bool
 | .int k=>some (.int k)
 | .string=>some .string
 | .pointer _=>some .ptr
 | .func _ _ _=>some .func
 | .interface _| .tuple _=>some .other
 |_=>none
def aU(P:Program):Nat->List Field->Bool
 |_,[]=>true
 |i,f::r=>f.name != "_" &&f.offset==i&&aU P (i+P.cellsOf f.type) r
def eqok(P:Program)(t:TypeId):Bool:=
 match P.underlying t with
 |some (.struct fs)=> !P.stoodInHeld t&& !P.eqGuardType P.depth t&&aU P 0 fs.toList
 |_=>false
def Zh:Value->Bool
 | .agg _=>true
 |_=>false
def TD.isAgg:TD->Bool
 | .struct _| .array _ _=>true
 |_=>false
def lF(P:Program)(t:TypeId):Bool:=
 match P.underlying t with
 |some (.struct fs)=>fs.toList.all fun f=>(P.info? f.type).isSome
 |_=>true
def Ct(P:Program)(t:TypeId):Option TypeId:=match P.underlying t with|some (.pointer e)=>some e|_=>none
def tiOf(P:Program)(t:TypeId):Option TI:=
 match P.info? t,P.underlying t with
 |some i,some d=>match K8 P d,i.zero with
  |some td,some z=>match ie z.cells.toList with
   |some l=>if l.length=i.size/\Zh z=td.isAgg/\(l.all PV.kP)=true/\lF P t=true then some ⟨i.size,i.bytes,td,l,eqok P t,Ct P t⟩else none
   |none=>none
  |_,_=>none
 |_,_=>none
structure zN (P:Program) (t:TypeId) (ti:TI):Prop where
 info: ∃i z,P.info? t=some i/\i.size=ti.size/\i.bytes=ti.bytes/\i.zero=some z/\ie z.cells.toList=some ti.zero/\Zh z=ti.td.isAgg
 len:ti.zero.length=ti.size
 kP: ∀p∈ti.zero,p.kP=true
 und: ∃d,P.underlying t=some d/\K8 P d=some ti.td
 known:lF P t=true
 eqk:ti.eq=eqok P t
 pek:ti.pe=Ct P t
theorem tiOf_ok{P:Program}{t:TypeId}{ti:TI}(h:tiOf P t=some ti):zN P t ti:=by
 unfold tiOf at h;split at h<;>try cases h
 rename_i i d hi hd;split at h<;>try cases h
 rename_i td z jw hz;split at h<;>try cases h
 rename_i l hl;split at h<;>try cases h
 rename_i hc;obtain⟨h1,h2,h3,h4⟩:=hc;exact⟨⟨i,z,hi,rfl,rfl,hz,hl,h2⟩,h1,by simpa using h3,⟨d,hd,jw⟩,h4,rfl,rfl⟩
theorem qr.zg(H:qr)(β γ:Nat)(y:qE):(H.put β y).get γ=if γ=β then some y else H.get γ:=by induction H with|nil=>simp only[qr.put,qr.get];by_cases h:β=γ<;>simp[h,eq_comm]|cons x r ih=>obtain⟨i,v⟩:=x;simp only[qr.put];by_cases h:i=β;subst h;simp only[if_true,qr.get];by_cases h2:i=γ;simp[h2];simp[h2,n_ h2];simp only[h,if_false,qr.get,ih];by_cases h2:i=γ;subst h2;simp[h];simp[h2]
def jY(ι:yq)(β:Nat)(p:Pl):yq:=fun γ=>if γ=β then p else ι γ
@[simp] theorem wQ (ι:yq) (β:Nat) (p:Pl):jY ι β p β=p:=by simp[jY]
theorem pD(ι:yq){β γ:Nat}(p:Pl)(h:γ≠β):jY ι β p γ=ι γ:=by simp[jY,h]
theorem l5.mono{w w' :World}{Im jV:Nat->Prop}(hi: ∀b,Im b->jV b)(hw: ∀b,Im b->w'.heap[b]? =w.heap[b]?){ds:List Nat}{p:PV}{v:Value}{k:Sk}(h:l5 w Im ds p v k):
  (∀ x∈k.blocks,w'.heap[x]? =w.heap[x]?)->l5 w' jV ds p v k:=by induction h with|V0 p v hs h=>exact fun _=> .V0 p v hs (h.mono hi hw)|nil d ds=>exact fun _=> .nil d ds|sl d ds es b o cap ks vs elem fz hb hfz EL hd hle ho dm Ng val K1 _ ih=>intro hk;refine .sl d ds es b o cap ks vs elem fz (by rw[hk b (by simp[Sk.blocks])];exact hb) hfz EL hd hle ho dm Ng val K1 fun i p k a c=>ih i p k a c fun x hx=>hk x ?_;simp only[Sk.blocks,List.mem_cons,e!];exact .inr ⟨k,z6 c,hx⟩
theorem rE.mono[xg]{w w' :World}{H H' :qr}{ι ι' :yq}{Im jV:Nat->Prop}(hi:zc w H ι Im)(he:wR w H ι Im w' H' ι' jV)
  {β:Nat} {b:qE} (hp:b.used=true->ι' β=ι β/\ ∀x,b.yc (ι β) x->w'.heap[x]? =w.heap[x]?) (h:rE w H ι Im β b):rE w' H' ι' jV β b:=by have hw: ∀b,Im b->w'.heap[b]? =w.heap[b]? :=fun b hb=>he.bh hi b hb;cases b with|box c=>obtain⟨e1,e2⟩:=hp rfl;have e2:=e2 _ ⟨rfl,.inl rfl⟩;obtain⟨vs,elem,fz,h1,h2,h3,h4,h5⟩:=h;exact⟨vs,elem,fz,by rw[e1,e2];exact h1,h2,h3,h4,fun i x v a b=>(h5 i x v a b).mono hi he⟩|row qu sz es=>(cases qu with|true=>exact h|false=>obtain⟨e1,e2⟩:=hp rfl;have e2:=e2 _ ⟨rfl,.inl rfl⟩;obtain⟨vs,elem,fz,h1,h2,h3,h4,h5,h6,h7,h8⟩:=h;refine⟨vs,elem,fz,by rw[e1,e2];exact h1,h2,by rw[e1];exact h3,h4,by rw[e1];exact h5,h6,h7,fun i e j p a b=>?_⟩;obtain⟨v,g1,g2⟩:=h8 i e j p a b;exact⟨v,g1,g2.mono he.im hw⟩)|map es zR=>obtain⟨e1,e2⟩:=hp rfl;have e2:=e2 _ ⟨rfl,.inl rfl⟩;obtain⟨xi,h1,h2,h3⟩:=h;refine⟨xi,by rw[e1,e2];exact h1,h2,fun i k x born e a b=>?_⟩;obtain⟨g1,g2,g3⟩:=h3 i k x born e a b;exact⟨g1.mono he.im hw,g2.mono he.im hw,g3⟩|mB sz es=>obtain⟨e1,e2⟩:=hp rfl;have e2:=e2 _ ⟨rfl,.inl rfl⟩;obtain⟨vs,elem,fz,h1,h2,h3,h4,h5,h6,h7,h8⟩:=h;refine⟨vs,elem,fz,by rw[e1,e2];exact h1,h2,by rw[e1];exact h3,h4,by rw[e1];exact h5,h6,h7,fun i e j x a b=>?_⟩;obtain⟨v,g1,g2⟩:=h8 i e j x a b;exact⟨v,g1,g2.mono hi he⟩|jf qu ds es lg=>(cases qu with|true=>exact h|false=>obtain⟨e1,e2⟩:=hp rfl;obtain⟨vs,elem,fz,h1,h2,h3,h4,h5,h6,h7,h8,h9⟩:=h;refine⟨vs,elem,fz,by rw[e1,e2 _ ⟨rfl,.inl rfl⟩];exact h1,h2,by rw[e1];exact h3,by rw[e1];exact h4,by rw[e1];exact h5,by rw[e1];exact h6,fun x hx=>U! (h7 x (by rw[<- e1];exact hx)) he.size,h8,fun i p k a b=>?_⟩;rw[e1]at b;obtain⟨v,g1,g2,g3⟩:=h9 i p k a b;exact⟨v,g1,fun hj=>(g2 hj).mono he.im hw fun x hx=>e2 x ⟨rfl,.inr ⟨rfl,e!.mpr ⟨k,z6 b,hx⟩⟩⟩,fun γ xf hf=>⟨(g3 γ xf hf).1,(g3 γ xf hf).2.mono hi he⟩⟩)|xw=>trivial
theorem rE.lt{w:World}{H:qr}{ι:yq}{Im:Nat->Prop}{β:Nat}{b:qE}(h:rE w H ι Im β b)(hu:b.used=true):(ι β).b<w.heap.size:=by
 have key: ∀o,w.heap[(ι β).b]? =some o->(ι β).b<w.heap.size:=fun o ho=>by rcases V' (ι β).b w.heap.size with xJ|hge;exact xJ;simp[y_ hge]at ho
 cases b with|box c=>obtain⟨vs,elem,fz,h1,_⟩:=h;exact key _ h1|row qu sz es=>(cases qu with|true=>cases hu|false=>obtain⟨vs,elem,fz,h1,_⟩:=h;exact key _ h1)|map es zR=>obtain⟨xi,h1,_⟩:=h;exact key _ h1|mB sz es=>obtain⟨vs,elem,fz,h1,_⟩:=h;exact key _ h1|jf qu ds es lg=>(cases qu with|true=>cases hu|false=>obtain⟨vs,elem,fz,h1,_⟩:=h;exact key _ h1)|xw=>cases hu
theorem rE.cn{w:World}{H:qr}{ι:yq}{Im:Nat->Prop}{β:Nat}{b:qE}{x:Nat}(h:rE w H ι Im β b)(hu:b.yc (ι β) x):x<w.heap.size:=by rcases hu.2 with rfl|⟨ho,hx⟩;exact h.lt hu.1;cases b<;>simp only[qE.C7,ko]at ho;rename_i qu ds es lg;cases qu with|true=>exact absurd hu.1 (by simp[qE.used])|false=>obtain⟨vs,elem,fz,h1,h2,h3,h4,h5,h6,h7,h8⟩:=h;exact h7 x hx
theorem qE.foot_of{b:qE}{p:Pl}{x:Nat}(hb:b.C7=false)(h:b.yc p x):x=p.b:=by rcases h.2 with h|⟨h,_⟩;exact h;rw[hb]at h;cases h
theorem zc.Rk[xg]{w w' :World}{H:qr}{ι:yq}{Im:Nat->Prop}(hi:zc w H ι Im)(β:Nat)(y:qE)(p:Pl)
  (hold: ∀x,H.get β=some x->xS x y (ι β) p) (mr:w.heap.size<=w'.heap.size/\w'.os=w.os/\w'.output=w.output)
  (Jt: ∀b,b<w.heap.size->(∀ x,H.get β=some x-> ¬x.yc (ι β) b)->w'.heap[b]? =w.heap[b]?)
  (cp: ∀z,y.yc p z->w.heap.size<=z\/ ∃x,H.get β=some x/\x.yc (ι β) z)
  (l6:wR w H ι Im w' (H.put β y) (jY ι β p) Im->rE w' (H.put β y) (jY ι β p) Im β y):
  zc w' (H.put β y) (jY ι β p) Im/\wR w H ι Im w' (H.put β y) (jY ι β p) Im:=by
 have he:wR w H ι Im w' (H.put β y) (jY ι β p) Im:=by refine⟨fun γ b hb=>?_,fun _ h=>h,fun _ h=> .inl h,fun γ x z hx hu=>?_,fun b hb hn=>?_,mr.1,mr.2⟩;by_cases hγ:γ=β;subst hγ;exact⟨y,by simp[qr.zg],by simpa using hold b hb⟩;exact⟨b,by simp[qr.zg,hγ,hb],by rw[pD ι p hγ];exact uU b _⟩;by_cases hγ:γ=β;subst hγ;simp only[qr.zg,if_true,ki]at hx;subst hx;rw[wQ]at hu;rcases cp z hu with h|⟨x,g1,g2⟩;exact .inl h;exact .inr ⟨γ,x,g1,g2⟩;simp only[qr.zg,hγ,if_false]at hx;rw[pD ι p hγ]at hu;exact .inr ⟨γ,x,hx,hu⟩;exact Jt b hb fun x hx hu=>hn β x hx hu
 refine⟨⟨fun γ b hb=>?_,fun γ γ' b b' z hb js hu hu' =>?_,fun b hb=>U! (hi.im b hb) mr.1,fun γ b z hb hu=>?_, ?_, ?_⟩,he⟩;by_cases hγ:γ=β;subst hγ;simp only[qr.zg,if_true,ki]at hb;subst hb;exact l6 he;simp only[qr.zg,hγ,if_false]at hb;refine(hi.rB γ b hb).mono hi he (fun hu=>⟨pD ι p hγ,fun x hx=>?_⟩);exact Jt _ ((hi.rB γ b hb).cn hx) fun x0 hx0 P8=>hγ (hi.inj γ β b x0 x hb hx0 hx P8);(have fresh: ∀δ d,δ≠β->H.get δ=some d->d.yc (ι δ) z->y.yc p z->False:=by intro δ d hδ hd hud huy;rcases cp z huy with h|⟨x,g1,g2⟩;have:=(hi.rB δ d hd).cn hud;omega;exact hδ (hi.inj δ β d x z hd g1 hud g2));by_cases hγ:γ=β<;>by_cases hγ' :γ' =β;rw[hγ,hγ'];subst hγ;simp only[qr.zg,if_true,ki,hγ',if_false]at hb js;subst hb;rw[wQ]at hu;rw[pD ι p hγ']at hu';exact(fresh γ' b' hγ' js hu' hu).elim;subst hγ';simp only[qr.zg,if_true,ki,hγ,if_false]at hb js;subst js;rw[wQ]at hu';rw[pD ι p hγ]at hu;exact(fresh γ b hγ hb hu hu').elim;simp only[qr.zg,hγ,hγ',if_false]at hb js;rw[pD ι p hγ]at hu;rw[pD ι p hγ']at hu';exact hi.inj γ γ' b b' z hb js hu hu';by_cases hγ:γ=β;subst hγ;simp only[qr.zg,if_true,ki]at hb;subst hb;rw[wQ]at hu;rcases cp z hu with h|⟨x,g1,g2⟩;intro hIm;have:=hi.im _ hIm;omega;exact hi.Vt γ x z g1 g2;simp only[qr.zg,hγ,if_false]at hb;rw[pD ι p hγ]at hu;exact hi.Vt γ b z hb hu;exact xg.go hi.Na hi.VP fun b hb=>he.bh hi b hb;exact hi.VP
theorem noO{H:qr}{β:Nat}{x0:qE}(h:H.get β=some x0)(h0:x0.C7=false): ∀x,H.get β=some x->x.C7=false:=fun x hx=>by rw[h]at hx;cases hx;exact h0
theorem NV{H:qr}{β:Nat}(h:H.get β=none): ∀x,H.get β=some x->x.C7=false:=fun x hx=>by rw[h]at hx;cases hx
theorem zc.put[xg]{w w' :World}{H:qr}{ι:yq}{Im:Nat->Prop}(hi:zc w H ι Im)(β:Nat)(y:qE)(p:Pl)
  (hold: ∀x,H.get β=some x->xS x y (ι β) p) (mr:w.heap.size<=w'.heap.size/\w'.os=w.os/\w'.output=w.output)
  (Jt: ∀b,b<w.heap.size->(∀ x,H.get β=some x->x.used=true->(ι β).b≠b)->w'.heap[b]? =w.heap[b]?)
  (cp:y.used=true->w.heap.size<=p.b\/ ∃x,H.get β=some x/\x.used=true/\(ι β).b=p.b)
  (l6:wR w H ι Im w' (H.put β y) (jY ι β p) Im->rE w' (H.put β y) (jY ι β p) Im β y)
  (Xx: ∀x,H.get β=some x->x.C7=false:=by first|(apply noO;assumption;rfl)|(apply NV;assumption)) (hy:y.C7=false:=by rfl):
  zc w' (H.put β y) (jY ι β p) Im/\wR w H ι Im w' (H.put β y) (jY ι β p) Im:=by refine zc.Rk hi β y p hold mr (fun b hb hn=>Jt b hb fun x hx hu e=>hn x hx ⟨hu,.inl e.symm⟩) (fun z hz=>?_) l6;rw[qE.foot_of hy hz];rcases cp hz.1 with h|⟨x,g1,g2,g3⟩;exact .inl h;exact .inr ⟨x,g1,g2,.inl g3.symm⟩
section
variable [xg] {P:Program} {w:World} {H:qr} {ι:yq} {Im:Nat->Prop}
theorem Cw{v:Value}{p:PV}(h:pvOf v=some p):RP w Im p v/\p.kP=true/\v.cells= #[v]:=by unfold pvOf at h;split at h<;>cases h;exact⟨.bool _,rfl,rfl⟩;exact⟨.int _ _,rfl,rfl⟩;exact⟨.str _,rfl,rfl⟩;exact⟨.yd,rfl,rfl⟩;exact⟨.aS _,rfl,rfl⟩;exact⟨.bT,rfl,rfl⟩;exact⟨.fh,rfl,rfl⟩;exact⟨.ia,rfl,rfl⟩;exact⟨.fn _,rfl,rfl⟩
theorem Xi: ∀{vs:List Value}{l:List PV},ie vs=some l->
  l.length=vs.length/\(∀ p∈l,p.kP=true)/\ ∀(i:Nat) p v,l[i]? =some p->vs[i]? =some v->RP w Im p v
 |[],l,h=>by simp only[ie,ki]at h;subst h;simp
 |v::r,l,h=>by simp only[ie]at h;split at h<;>cases h;rename_i p l' hp hl;obtain⟨h1,h2,h3⟩:=Xi hl;obtain⟨g1,g2,_⟩:=Cw (w:=w) (Im:=Im) hp;refine⟨by simp[h1],by simpa using⟨g2,h2⟩,fun i q u hq hu=>?_⟩;cases i with|zero=>simp at hq hu;subst hq hu;exact g1|succ i=>simp at hq hu;exact h3 i q u hq hu
theorem avOf_ok(v:Value):RA w H ι Im (avOf v) v:=by unfold avOf;split;split;rename_i cs _ l hl;obtain⟨h1,h2,h3⟩:=Xi (w:=w) (Im:=Im) hl;exact .pv _ _ (.agg l cs h1 h2 h3);exact .undef _;exact .xV [] [] rfl z?;split;rename_i p hp;exact .pv _ _ (Cw hp).1;exact .undef _
theorem QP{a:Act}{E:yp}(hE: ∀t,RA w H ι Im (E.get t) (a.tmps.getD t undef))(x:Operand):RA w H ι Im (ev E x) (a.eval x):=by cases x with|tmp t=>exact hE t|const v=>exact avOf_ok v|global g=>exact .undef _|func f=>exact .pv _ _ (.fn f)
theorem add_plain(b o n:Nat):(⟨b,o,none⟩:Addr).add n=⟨b,o+n,none⟩:=by unfold Addr.add;split;rename_i h;subst h;rfl;rfl
theorem gA{b o:Nat}{vs:Array Value}{elem:TypeId}{fz:Nat×Nat}(h:w.heap[b]? =some (.cells vs elem fz)):
  w.cell? ⟨b,o,none⟩=vs[o]? :=by simp[J',h]
theorem qx{t:TypeId}{d:TypeDesc}(h:P.underlying t=some d):(underlying t).run P w= .ok d w:=by simp[underlying,h]
theorem gV{t:TypeId}{i:TypeInfo}(h:P.info? t=some i):(typeInfo t).run P w= .ok i w:=by simp[typeInfo,h]
theorem zN.size{t:TypeId}{ti:TI}(h:zN P t ti):(sizeOf t).run P w= .ok ti.size w:=by obtain⟨i,z,h1,h2,_⟩:=h.info;simp[sizeOf,gV h1,h2]
theorem zN.isAgg{t:TypeId}{ti:TI}(h:zN P t ti):(Go.isAgg t).run P w= .ok ti.isAgg w:=by obtain⟨d,h1,h2⟩:=h.und;unfold Go.isAgg;simp only[jT,qx h1,me];unfold TI.isAgg;generalize ti.td=td at*;cases d<;>simp[K8]at h2<;>subst h2<;>rfl
theorem run_loadCellsFrom(b o:Nat)(vs:Nat->Value): ∀(n i:Nat)(acc:Array Value),(∀ j,j<n->w.cell? ⟨b,o+(i+j),none⟩=some (vs (i+j)))->
  (loadCellsFrom ⟨b,o,none⟩ i n acc).run P w= .ok (acc++((E? n).map fun j=>vs (i+j)).toArray) w
 |0,i,acc,_=>by simp[loadCellsFrom]
 |n+1,i,acc,h=>by
  have h0:=h 0 o?;simp only[M?]at h0;have ih:=run_loadCellsFrom b o vs n (i+1) (acc.push (vs i)) (fun j hj=>by
   have:=h (j+1) o?
   rwa[show i+(j+1)=i+1+j from o?]at this)
  simp only[loadCellsFrom,add_plain,jT,run_load,h0,me,ih];congr 1;apply D!;simp[List.range_succ_eq_map,Function.comp_def,i!,Nat.add_comm 1]
theorem run_loadCells(b o n:Nat)(vs:Nat->Value)(h: ∀j,j<n->w.cell? ⟨b,o+j,none⟩=some (vs j)):
  (loadCells ⟨b,o,none⟩ n).run P w= .ok ((E? n).map vs).toArray w:=by unfold loadCells;rw[run_loadCellsFrom b o vs n 0 #[] (fun j hj=>by simpa using h j hj)];simp
theorem oh: ∀{c:List AV}{l:List PV},lv c=some l->c=l.map .pv
 |[],l,h=>by simp[lv]at h;subst h;rfl
 |x::r,l,h=>by (cases x<;>simp only[lv]at h<;>try cases h);split at h<;>cases h;rename_i l' hl;simp[oh hl]
theorem lT{c:List AV}{vs:List Value}(hl:c.length=vs.length)(hf: ∀x∈c,x.kP=true)
  (h: ∀(i:Nat) x v,c[i]? =some x->vs[i]? =some v->RA w H ι Im x v):RA w H ι Im (Jy c) (.agg ⟨vs⟩):=by unfold Jy;split;rename_i l hp;have:=oh hp;subst this;refine .pv _ _ (.agg l vs (by simpa using hl) (fun p hp=>?_) fun i p v h1 h2=>?_);have:=hf (.pv p) (by simp[hp]);simpa[AV.kP]using this;have:=h i (.pv p) v (by simp[h1]) h2;cases this;assumption;exact .agg c vs hl hf h
theorem TK{t:TypeId}{ti:TI}(ht:zN P t ti)(b o:Nat)(c:List AV)(vs:Nat->Value)
  (hc: ∀i,i<c.length->w.cell? ⟨b,o+i,none⟩=some (vs i)) (hf: ∀x∈c,x.kP=true)
  (h: ∀(i:Nat) x,c[i]? =some x->RA w H ι Im x (vs i)) {r:AV} (hr:EP ti c=some r):
  ∃u,(loadVar t ⟨b,o,none⟩).run P w= .ok u w/\RA w H ι Im r u:=by unfold EP at hr;unfold loadVar;simp only[jT,ht.isAgg,me];by_cases ha:ti.isAgg=true;simp only[ha,if_true]at hr |-;split at hr<;>cases hr;rename_i hlen;refine⟨.agg ⟨(E? ti.size).map vs⟩, ?_,lT v? (fun x hx=>hf x (W? hx)) ?_⟩;simp only[jT,ht.size,me,run_loadCells b o ti.size vs (fun j hj=>hc j o?),K?];intro i x v h1 h2;simp only[X?,yR]at h2;obtain⟨j,hj,rfl⟩:=h2;by_cases hi:i<ti.size;simp[hi]at hj;subst hj;rw[V? hi]at h1;exact h i x h1;simp[hi]at hj;simp only[ha,ko,if_false]at hr |-;cases c with|nil=>cases hr|cons x r' =>simp only[ki]at hr;have h0:=hc 0 z?;simp only[M?]at h0;refine⟨vs 0,by simp[h0],hr ▸ h 0 x z?⟩
theorem TM{t:TypeId}{ti:TI}(ht:zN P t ti)(b o:Nat)(c:List PV)(vs:Nat->Value)
  (hc: ∀i,i<c.length->w.cell? ⟨b,o+i,none⟩=some (vs i)) (hf: ∀x∈c,x.kP=true)
  (h: ∀(i:Nat) x,c[i]? =some x->RP w Im x (vs i)) {r:AV} (hr:ldP ti c=some r):
  ∃u,(loadVar t ⟨b,o,none⟩).run P w= .ok u w/\RA w H ι Im r u:=by unfold ldP at hr;unfold loadVar;simp only[jT,ht.isAgg,me];by_cases ha:ti.isAgg=true;simp only[ha,if_true]at hr |-;split at hr<;>cases hr;rename_i hlen;refine⟨.agg ⟨(E? ti.size).map vs⟩, ?_,.pv _ _ (.agg _ _ v? (fun x hx=>hf x (W? hx)) ?_)⟩;simp only[jT,ht.size,me,run_loadCells b o ti.size vs (fun j hj=>hc j o?),K?];intro i x v h1 h2;simp only[X?,yR]at h2;obtain⟨j,hj,rfl⟩:=h2;by_cases hi:i<ti.size;simp[hi]at hj;subst hj;rw[V? hi]at h1;exact h i x h1;simp[hi]at hj;simp only[ha,ko,if_false]at hr |-;cases c with|nil=>cases hr|cons x r' =>simp only[ki]at hr;have h0:=hc 0 z?;simp only[M?]at h0;refine⟨vs 0,by simp[h0],hr ▸ .pv _ _ (h 0 x z?)⟩
end
section
variable [xg] {P:Program} {w:World} {H:qr} {ι:yq} {Im:Nat->Prop}
theorem zc.box{β:Nat}{c:List AV}(hi:zc w H ι Im)(hb:H.get β=some (.box c)):
  ∃vs elem fz,w.heap[(ι β).b]? =some (.cells vs elem fz)/\wC fz vs.size/\c.length=vs.size/\
   (∀ x∈c,x.kP=true)/\ ∀(i:Nat) x v,c[i]? =some x->vs[i]? =some v->RA w H ι Im x v:=hi.rB β _ hb
theorem zc.row{β sz:Nat}{es:List (List PV)}(hi:zc w H ι Im)(hb:H.get β=some (.row false sz es)):
  ∃vs elem fz,w.heap[(ι β).b]? =some (.cells vs elem fz)/\wC fz vs.size/\vs.size=(ι β).cap*sz/\0<sz/\
   es.length<=(ι β).cap/\(∀ e∈es,e.length=sz)/\(∀(i:Nat) e(j:Nat) p,es[i]? =some e->e[j]? =some p->p.kP=true)/\
   ∀(i:Nat) e(j:Nat) p,es[i]? =some e->e[j]? =some p-> ∃v,vs[i*sz+j]? =some v/\RP w Im p v:=hi.rB β _ hb
theorem zc.mB{β sz:Nat}{es:List (List AV)}(hi:zc w H ι Im)(hb:H.get β=some (.mB sz es)):
  ∃vs elem fz,w.heap[(ι β).b]? =some (.cells vs elem fz)/\wC fz vs.size/\vs.size=(ι β).cap*sz/\0<sz/\
   es.length<=(ι β).cap/\(∀ e∈es,e.length=sz)/\(∀(i:Nat) e(j:Nat) x,es[i]? =some e->e[j]? =some x->x.kP=true)/\
   ∀(i:Nat) e(j:Nat) x,es[i]? =some e->e[j]? =some x-> ∃v,vs[i*sz+j]? =some v/\RA w H ι Im x v:=hi.rB β _ hb
theorem zc.jf{β:Nat}{ds:List Nat}{es:List PV}{lg:Option (Nat×Nat×Nat)}(hi:zc w H ι Im)(hb:H.get β=some (.jf false ds es lg)):
  ∃vs elem fz,w.heap[(ι β).b]? =some (.cells vs elem fz)/\wC fz vs.size/\vs.size=(ι β).cap/\es.length<=(ι β).cap/\(ι β).ks.length=es.length/\
   ((ι β).b::(ι β).ks.flatMap Sk.blocks).Nodup/\(∀ x∈(ι β).ks.flatMap Sk.blocks,x<w.heap.size)/\(∀ j γ xf,lg=some (j,γ,xf)->j<es.length)/\
   ∀(i:Nat) p k,es[i]? =some p->(ι β).ks[i]? =some k-> ∃v,vs[i]? =some v/\
    ((∀ j γ xf,lg=some (j,γ,xf)->i≠j)->l5 w Im ds p v k)/\(∀ γ xf,lg=some (i,γ,xf)->k= .leaf/\RA w H ι Im (.row γ xf 0 xf) v):=hi.rB β _ hb
theorem sK(t:TypeId)(a:Addr):(Instr.loadAt t (.pointer (some a))).run P w=(loadVar t a).run P w:=by unfold Instr.loadAt Instr.sureAddr;simp
theorem mem_of_getElem?{α:Type}{l:List α}{i:Nat}{x:α}(h:l[i]? =some x):x∈l:=z6 h
theorem Bt{t:TypeId}{ti:TI}(ht:zN P t ti)(hi:zc w H ι Im){x:AV}{v:Value}(hx:RA w H ι Im x v)
  {r:AV} (hr:QJ ti x H=some r): ∃u,(Instr.loadAt t v).run P w= .ok u w/\RA w H ι Im r u:=by
 unfold QJ at hr;split at hr;{(rename_i β o;split at hr<;>try cases hr);rename_i c hb;cases hx;obtain⟨vs,elem,fz,h1,h2,h3,h4,h5⟩:=hi.box hb;rw[sK];refine TK ht _ o (c.drop o) (fun i=>(vs[o+i]?).getD undef) (fun i xJ=>?_) (fun x hx=>h4 x (x! hx)) (fun i x hx=>?_) hr;(rw[gA h1];have:o+i<vs.size:=by simp at xJ;omega);simp[this];(rw[v!]at hx;have xJ:o+i<vs.size:=by have:=(qF hx).1;omega);exact h5 (o+i) x _ hx (by simp[xJ])};{(rename_i β xf i o;split at hr<;>try cases hr);{(rename_i sz es hb;split at hr<;>try cases hr);(rename_i jA;split at hr<;>try cases hr);(rename_i e he;have hvv:v= .pointer (some ⟨(ι β).b,i*sz+o,none⟩):=by cases hx with|uI _ _ _ _ b1 o1 b js hv h=>rw[hb]at js;cases js;obtain⟨rfl,rfl⟩:=h _ _ _ rfl jA rfl;rfl);subst hvv;obtain⟨vs,elem,fz,h1,h2,h3,h4,h5,h6,h7,h8⟩:=hi.row hb;rw[sK];refine TM ht _ (i*sz+o) (e.drop o) (fun j=>(vs[i*sz+o+j]?).getD undef) (fun j xJ=>?_) (fun x hx=>?_) (fun j p hp=>?_) hr;(rw[gA h1];obtain⟨p,hp⟩: ∃p,e[o+j]? =some p:=by simp at xJ;exact⟨e[o+j]'(o?),z?⟩);obtain⟨v,g1,_⟩:=h8 i e (o+j) p he hp;rw[i!,g1];rfl;obtain⟨j,hj⟩:=kb (x! hx);exact h7 i e j x he hj;rw[v!]at hp;obtain⟨v,g1,g2⟩:=h8 i e (o+j) p he hp;simp only[i!,g1,c!];exact g2};{(rename_i sz es hb;split at hr<;>try cases hr);(rename_i jA;split at hr<;>try cases hr);(rename_i e he;have hvv:v= .pointer (some ⟨(ι β).b,i*sz+o,none⟩):=by cases hx with|uI _ _ _ _ b1 o1 b js hv h=>rw[hb]at js;cases js;obtain⟨rfl,rfl⟩:=h _ _ _ rfl jA rfl;rfl);subst hvv;obtain⟨vs,elem,fz,h1,h2,h3,h4,h5,h6,h7,h8⟩:=hi.mB hb;rw[sK];refine TK ht _ (i*sz+o) (e.drop o) (fun j=>(vs[i*sz+o+j]?).getD undef) (fun j xJ=>?_) (fun x hx=>?_) (fun j p hp=>?_) hr;(rw[gA h1];obtain⟨p,hp⟩: ∃p,e[o+j]? =some p:=by simp at xJ;exact⟨e[o+j]'(o?),z?⟩);obtain⟨v,g1,_⟩:=h8 i e (o+j) p he hp;rw[i!,g1];rfl;obtain⟨j,hj⟩:=kb (x! hx);exact h7 i e j x he hj;rw[v!]at hp;obtain⟨v,g1,g2⟩:=h8 i e (o+j) p he hp;simp only[i!,g1,c!];exact g2};(rename_i ds es j γ fv hb;split at hr<;>try cases hr);(rename_i hc;obtain⟨jA,rfl,rfl⟩:=hc;have hvv:v= .pointer (some ⟨(ι β).b,j*1+0,none⟩):=by cases hx with|uI _ _ _ _ b1 o1 b js hv h=>rw[hb]at js;cases js;obtain⟨rfl,rfl⟩:=h _ _ _ rfl jA rfl;rfl);subst hvv;obtain⟨vs,elem,fz,h1,h2,h3,h4,h5,h6,h7,h8,h9⟩:=hi.jf hb;have hj:=h8 _ _ _ rfl;obtain⟨v0,g1,_,g3⟩:=h9 j es[j] (ι β).ks[j] (by simp[hj]) z?;have g4:=(g3 _ _ rfl).2;rw[sK,show j*1+0=j by omega];refine TK ht _ j [.row γ fv 0 fv] (fun _=>v0) (fun k xJ=>?_) (fun x hx=>by simp at hx;subst hx;rfl) (fun k p hp=>?_) hr;(rw[gA h1];have:k=0:=by simpa using xJ);subst this;exact g1;cases k with|zero=>simp at hp;subst hp;exact g4|succ k=>simp at hp};rename_i c o;cases hx;rename_i b off vs QF hc hf h;rw[sK];refine TM ht _ (off+o) (c.drop o) (fun j=>vs (o+j)) (fun j xJ=>?_) (fun x hx=>hf x (x! hx)) (fun j p hp=>?_) hr;rw[i!];exact hc (o+j) (by simp at xJ;omega);rw[v!]at hp;exact h (o+j) p hp
 ·rename_i c;cases hx with
  |pv _ _ h=>cases h with
   |rp _ b off vs QF hc hf h=>
    rw[sK];exact TM ht _ off c vs hc hf h hr
 cases hr
theorem Gg{b o:Nat}{vs:Array Value}{elem:TypeId}{fz:Nat×Nat}{x:Value}(h:w.heap[b]? =some (.cells vs elem fz)):
  (w.setCell ⟨b,o,none⟩ x).heap[b]? =some (.cells (vs.setIfInBounds o x) elem fz):=by obtain⟨xJ,hv⟩:=Array.getElem?_eq_some_iff.1 h;simp[A_,xJ,hv,Array.getElem_modify]
theorem Yd{a:Addr}{x:Value}{b' :Nat}(jz:a.block≠b'):(w.setCell a x).heap[b']? =w.heap[b']? :=by simp[A_,Array.getElem?_modify,jz]
theorem Gh{a:Addr}{x:Value}:(w.setCell a x).heap.size=w.heap.size:=by simp[A_]
theorem RP.dD{p:PV}{v:Value}(hp:p.kP=true)(h:RP w Im p v):dD v=true:=by cases h<;>first|rfl|cases hp
theorem RA.dD{x:AV}{v:Value}(hp:x.kP=true)(h:RA w H ι Im x v):Go.Gm.dD v=true:=by cases h with|pv p v h=>exact h.dD hp|undef=>cases hp|agg=>cases hp|xV=>cases hp|row _ _ _ _ _ _ ho=>exact ho|_=>rfl
theorem RS{b o:Nat}{vs:Array Value}{elem:TypeId}{fz:Nat×Nat}{x:Value}(h:w.heap[b]? =some (.cells vs elem fz))
  (ho:o<vs.size) (hf:wC fz vs.size) (hx:dD x=true):(store ⟨b,o,none⟩ x).run P w= .ok () (w.setCell ⟨b,o,none⟩ x):=by
 have hc:w.cell? ⟨b,o,none⟩=some vs[o]:=by rw[gA h];simp[ho]
 have hz:w.frozen? ⟨b,o,none⟩=false:=by have:=hf.2 o ho;simp only[World.frozen?,h];simp only[Bool.and_eq_false_iff,decide_eq_false_iff_not];omega
 cases x<;>simp_all [store,M_,dD]
theorem uG(b o:Nat)(elem:TypeId)(fz:Nat×Nat): ∀(xs:List Value)(i:Nat)(w:World)(vs:Array Value),w.heap[b]? =some (.cells vs elem fz)->
  wC fz vs.size->o+i+xs.length<=vs.size->(∀ x∈xs,dD x=true)->
  ∃w',(storeCells ⟨b,o,none⟩ xs i).run P w= .ok () w' /\(w'.heap.size=w.heap.size/\w'.os=w.os/\w'.output=w.output)/\(∀ b',b' ≠b->w'.heap[b']? =w.heap[b']?)/\
   ∃ei,w'.heap[b]? =some (.cells ei elem fz)/\ei.size=vs.size/\ ∀k,ei[k]? =if o+i<=k/\k<o+i+xs.length then xs[k-(o+i)]? else vs[k]?
 |[],i,w,vs,h,_,_,_=>by refine⟨w,by simp[storeCells],⟨rfl,rfl,rfl⟩,fun _ _=>rfl,vs,h,rfl,fun k=>?_⟩;rw[if_neg z?]
 |x::r,i,w,vs,h,hf,hl,hx=>by
  simp only[h?]at hl;have h1:=RS (P:=P) h (o:=o+i) (x:=x) o? hf (hx x z?);have h2:=Gg (o:=o+i) (x:=x) h;obtain⟨w',g1,g2,g3,ei,g4,g5,g6⟩:=uG b o elem fz r (i+1) (w.setCell ⟨b,o+i,none⟩ x) _ h2 (by simpa using hf)
   v? (fun y hy=>hx y (by simp[hy]))
  refine⟨w', ?_,⟨by rw[g2.1,Gh],g2.2.1,g2.2.2⟩,fun b' js=>by rw[g3 b' js,Yd (by exact n_ js)],ei,g4,by simpa using g5,fun k=>?_⟩;simp only[storeCells,add_plain,jT,h1,me,g1];rw[g6 k];simp only[h?,U_];by_cases hk:o+(i+1)<=k/\k<o+(i+1)+r.length;rw[if_pos hk,if_pos o?];obtain⟨j,rfl⟩: ∃j,k=o+i+(j+1):=⟨k-(o+i+1),o?⟩;rw[show o+i+(j+1)-(o+(i+1))=j from o?,show o+i+(j+1)-(o+i)=j+1 from o?];rfl;rw[if_neg hk];by_cases SV:o+i=k;subst SV;rw[if_pos rfl,if_pos o?,if_pos o?];simp;rw[if_neg SV,if_neg o?]
theorem AV.fe{x:AV}{v:Value}(hx:RA w H ι Im x v)(hs:x.MN=true):
  x.cells.length=v.cells.size/\(∀ y∈x.cells,y.kP=true)/\(∀ u∈v.cells.toList,dD u=true)/\
  ∀(i:Nat) y u,x.cells[i]? =some y->v.cells.toList[i]? =some u->RA w H ι Im y u:=by
 have one:x.kP=true->x.cells=[x]->
   x.cells.length=v.cells.size/\(∀ y∈x.cells,y.kP=true)/\(∀ u∈v.cells.toList,dD u=true)/\
   ∀(i:Nat) y u,x.cells[i]? =some y->v.cells.toList[i]? =some u->RA w H ι Im y u:=by
  intro hf e1;have ho:=hx.dD hf;have e2:v.cells= #[v]:=by cases v<;>first|rfl|cases ho
  rw[e1,e2];refine⟨rfl,by simpa using hf,by simpa using ho,fun i y u hy hu=>?_⟩;cases i with
  |zero=>simp at hy hu;subst hy hu;exact hx
  |succ i=>simp at hy
 have many: ∀(c:List AV)(vs:List Value),c.length=vs.length->(∀ x∈c,x.kP=true)->
   (∀(i:Nat) x v,c[i]? =some x->vs[i]? =some v->RA w H ι Im x v)-> ∀u∈vs,dD u=true:=by
  intro c vs hl hf h u hu;obtain⟨i,hi⟩:=kb hu;have:i<c.length:=by
   have:=(qF hi).1;omega
  exact(h i c[i] u z? hi).dD (hf _ z?)
 cases hx with|undef=>cases hs|xV=>cases hs|pv p v h=>(by_cases hp:p.kP=true;exact one hp (by cases p<;>first|rfl|cases hp);cases h with|agg c vs hl hf h=>(have h' : ∀(i:Nat) x v,(c.map AV.pv)[i]? =some x->vs[i]? =some v->RA w H ι Im x v:=fun i y u hy hu=>by simp only[X?,yR]at hy;obtain⟨p,hp,rfl⟩:=hy;exact .pv _ _ (h i p u hp hu));(have Hm: ∀y∈c.map AV.pv,y.kP=true:=fun y hy=>by simp only[N?]at hy;obtain⟨p,hp,rfl⟩:=hy;exact hf p hp);exact⟨by simpa[AV.cells,Value.cells]using hl,Hm,many _ vs (by simpa using hl) Hm h',h'⟩|_=>exact absurd rfl hp)|agg c vs hl hf h=>exact⟨by simpa[AV.cells,Value.cells]using hl,hf,many c vs hl hf h,h⟩|_=>exact one rfl rfl
theorem kK{α:Type}(c xs:List α)(o k:Nat)(ho:o+xs.length<=c.length):
  (c.take o++xs++c.drop (o+xs.length))[k]? =if o<=k/\k<o+xs.length then xs[k-o]? else c[k]? :=by have hl:(c.take o).length=o:=v?;by_cases h1:k<o;rw[if_neg o?,List.append_assoc,r? o?,V? h1];by_cases h2:k<o+xs.length;rw[if_pos o?,r? v?,J? o?,hl];rw[if_neg o?,J? v?,v!];congr 1;simp only[List.length_append,hl];omega
theorem Q3{t:TypeId}{ti:TI}(ht:zN P t ti)(a:Addr)(v:Value)(hs:v.cells.size=ti.size):
  (Instr.storeAt t (.pointer (some a)) v).run P w=(storeCells a v.cells.toList).run P w:=by unfold Instr.storeAt Instr.sureAddr storeVar;simp[ht.size,hs]
theorem UE{t:TypeId}{ti:TI}(ht:zN P t ti)(hi:zc w H ι Im){y:AV}{va vv:Value}{β xf i o:Nat}(hx:RA w H ι Im (.uI β xf i o) va)
  (c1:y.cells.length=vv.cells.size) (c2: ∀x∈y.cells,x.kP=true) (c3: ∀u∈vv.cells.toList,dD u=true)
  (c4: ∀(i:Nat) x u,y.cells[i]? =some x->vv.cells.toList[i]? =some u->RA w H ι Im x u) (hlen:y.cells.length=ti.size)
  {sz:Nat} {es:List (List AV)} (hb:H.get β=some (.mB sz es)) {ws:List (Nat×qE)} (hr:Zv sz β xf i o ti.size y.cells es=some ws):
  ∃w' ι',(Instr.storeAt t va vv).run P w= .ok () w' /\zc w' (qZ ws H) ι' Im/\wR w H ι Im w' (qZ ws H) ι' Im/\
   ∃β b b',ws=[(β,b')]/\H.get β=some b:=by unfold Zv at hr;cases hr
theorem tK{ks:List Sk}{i x:Nat}(h:x∈(ks.set i .leaf).flatMap Sk.blocks):x∈ks.flatMap Sk.blocks:=by rw[e!]at h |-;obtain⟨k,hk,hx⟩:=h;rcases List.mem_or_eq_of_mem_set hk with h|h;exact⟨k,h,hx⟩;subst h;simp[Sk.blocks]at hx
theorem J4: ∀{ks:List Sk}{i:Nat},(ks.flatMap Sk.blocks).Nodup->((ks.set i .leaf).flatMap Sk.blocks).Nodup
 |[],i,h=>z?
 |k::r,0,h=>by simp only[List.set_cons_zero,D?,Sk.blocks,List.nil_append];rw[D?,j!]at h;exact h.2.1
 |k::r,i+1,h=>by rw[List.set_cons_succ,D?,j!];rw[D?,j!]at h;exact⟨h.1,J4 h.2.1,fun a ha b hb=>h.2.2 a ha b (tK hb)⟩
theorem Eb{t:TypeId}{ti:TI}(ht:zN P t ti)(hi:zc w H ι Im){y:AV}{va vv:Value}{β xf i o:Nat}(hx:RA w H ι Im (.uI β xf i o) va)(hy:RA w H ι Im y vv)
  {ds:List Nat} {es:List PV} {lg:Option (Nat×Nat×Nat)} (hb:H.get β=some (.jf false ds es lg)) {ws:List (Nat×qE)} (hr:Jb β xf i o ti.size y ds es lg=some ws):
  ∃w' ι',(Instr.storeAt t va vv).run P w= .ok () w' /\zc w' (qZ ws H) ι' Im/\wR w H ι Im w' (qZ ws H) ι' Im/\
   ∃β b b',ws=[(β,b')]/\H.get β=some b:=by
 unfold Jb at hr;split at hr;rotate_left;cases hr;rename_i γ fv n;split at hr;rotate_left;cases hr;rename_i hc;obtain⟨jA,dh,rfl,mr,rfl,Lg⟩:=hc;simp only[ki]at hr;subst hr;have hvv:va= .pointer (some ⟨(ι β).b,i*1+0,none⟩):=by cases hx with|uI _ _ _ _ b1 o1 b js hv h=>rw[hb]at js;cases js;obtain⟨rfl,rfl⟩:=h _ _ _ rfl jA rfl;rfl
 subst hvv;rw[show i*1+0=i by omega];have oC:dD vv=true:=by cases hy with|row _ _ _ _ _ _ ho=>exact ho
 have Xw:vv.cells= #[vv]:=by cases vv<;>first|rfl|cases oC
 obtain⟨vs,elem,fz,h1,h2,h3,h4,h5,h6,h7,h8,h9⟩:=hi.jf hb;obtain⟨w',g1,g2,g3,ei,g4,g5,g6⟩:=uG (P:=P) (ι β).b i elem fz vv.cells.toList 0 w vs h1 h2 (by simp[Xw];omega) (by simpa[Xw]using oC);rw[Q3 ht _ _ (by rw[Xw,mr];rfl)];have hw: ∀b,Im b->w'.heap[b]? =w.heap[b]? :=fun b js=>g3 b (fun e=>hi.Vt β _ b hb ⟨rfl,.inl e⟩ js);obtain⟨EH,Tt⟩:=d!.1 h6;refine⟨w',jY ι β ⟨(ι β).b,(ι β).cap,(ι β).ks.set i .leaf⟩,g1, ?_⟩;have key:=zc.Rk hi (w' :=w') β (.jf false ds es (some (i,γ,n))) ⟨(ι β).b,(ι β).cap,(ι β).ks.set i .leaf⟩
  (fun x hx=>by rw[hb]at hx;cases hx;simp[xS,qE.sh,Pl.kD])
  ⟨o?,g2.2⟩ (fun b' _ jz=>g3 b' (fun e=>jz _ hb ⟨rfl,.inl e⟩)) (fun z hz=> .inr ⟨_,hb,rfl,hz.2.imp id fun h=>⟨rfl,tK h.2⟩⟩) (fun mM=>by
   refine⟨ei,elem,fz,by simpa using g4,by rw[g5];exact h2,by rw[g5,h3];simp,by simpa using h4,by simpa using h5, ?_,fun x hx=>?_,fun j γ' ver' hf=>?_,fun i' p k hp hk=>?_⟩
   ·simp only[wQ]
    exact d!.2 ⟨fun h=>EH (tK h),J4 Tt⟩
   ·simp only[wQ]at hx
    rw[g2.1]
    exact h7 x (tK hx)
   ·cases hf
    exact dh
   simp only[wQ]at hk
   have hg6:=g6 i'
   simp only[Xw,M?,a_,List.size_toArray,h?,List.length_nil,P?]at hg6
   by_cases P6:i=i'
   ·subst P6
    rw[if_pos o?]at hg6
    simp only[Nat.sub_self,c?]at hg6
    refine⟨vv,hg6,fun h=>absurd rfl (h _ _ _ rfl),fun γ' ver' hf=>?_⟩
    cases hf
    rw[List.getElem?_set_self o?]at hk
    cases hk
    exact⟨rfl,hy.mono hi mM⟩
   rw[if_neg o?]at hg6
   rw[List.getElem?_set_ne P6]at hk
   obtain⟨v0,k1,k2,k3⟩:=h9 i' p k hp hk
   refine⟨v0,by rw[hg6];exact k1,fun _=>?_,fun γ' ver' hf=>by cases hf;exact absurd rfl P6⟩
   refine(k2 fun j γ' ver' hf e=>?_).mono mM.im hw fun x hx=>g3 x fun e=>?_
   ·subst e
    rw[hf]at Lg
    simp only[Hb,decide_eq_true_eq]at Lg
    exact P6 Lg.symm
   subst e
   exact EH (e!.2 ⟨k,z6 hk,hx⟩))
 exact⟨key.1,key.2,β,_,_,rfl,hb⟩
theorem DO{t:TypeId}{ti:TI}(ht:zN P t ti)(hi:zc w H ι Im){x y:AV}{va vv:Value}(hx:RA w H ι Im x va)(hy:RA w H ι Im y vv)
  {ws:List (Nat×qE)} (hr:og ti x y H=some ws):
  ∃w' ι',(Instr.storeAt t va vv).run P w= .ok () w' /\zc w' (qZ ws H) ι' Im/\wR w H ι Im w' (qZ ws H) ι' Im/\
   ∃β b b',ws=[(β,b')]/\H.get β=some b:=by
 unfold og at hr;split at hr;rotate_left;cases hr;rename_i hc;obtain⟨lO,hlen⟩:=hc;obtain⟨c1,c2,c3,c4⟩:=AV.fe hy lO;have mr:vv.cells.size=ti.size:=o?;split at hr
 ·rename_i β o;split at hr
  ·rename_i c hb;split at hr;rotate_left;cases hr
   rename_i ho;simp only[ki]at hr;subst hr;cases hx;obtain⟨vs,elem,fz,h1,h2,h3,h4,h5⟩:=hi.box hb;obtain⟨w',g1,g2,g3,ei,g4,g5,g6⟩:=uG (P:=P) (ι β).b o elem fz vv.cells.toList 0 w vs h1 h2 v? c3;rw[Q3 ht _ _ mr];refine⟨w',jY ι β (ι β),g1, ?_⟩;rw[<- hlen]at ho |-;have key:=zc.put (Xx:=noO hb rfl) hi (w' :=w') β (.box (c.take o++y.cells++c.drop (o+y.cells.length))) (ι β) (fun x hx=>by rw[hb]at hx;cases hx;rfl)
    ⟨o?,g2.2⟩ (fun b' _ jz=>g3 b' (fun e=>jz _ hb rfl e.symm)) (fun _=> .inr ⟨_,hb,rfl,rfl⟩) (fun he=>by
     refine⟨ei,elem,fz,by simpa using g4,by rw[g5];exact h2,v?, ?_, ?_⟩
     ·intro x hx
      simp only[m?]at hx
      rcases hx with (hx|hx)|hx
      ·exact h4 x (W? hx)
      ·exact c2 x hx
      exact h4 x (x! hx)
     intro i x v hx hv
     rw[kK c y.cells o i ho]at hx
     rw[g6 i]at hv
     simp only[M?,a_,<- c1]at hv
     refine RA.mono hi he ?_
     split at hx
     ·rename_i hc
      rw[if_pos hc]at hv
      exact c4 _ x v hx hv
     rename_i hc
     rw[if_neg hc]at hv
     exact h5 i x v hx hv)
   exact⟨key.1,key.2,β,_,_,rfl,hb⟩
  cases hr
 ·rename_i β xf i o;split at hr
  ·rename_i ps FH;split at hr
   ·rename_i sz es hb;split at hr;rotate_left;cases hr;rename_i jA;split at hr;rotate_left;cases hr;rename_i e he;split at hr;rotate_left;cases hr;(rename_i ho;simp only[ki]at hr;subst hr;have hvv:va= .pointer (some ⟨(ι β).b,i*sz+o,none⟩):=by cases hx with|uI _ _ _ _ b1 o1 b js hv h=>rw[hb]at js;cases js;obtain⟨rfl,rfl⟩:=h _ _ _ rfl jA rfl;rfl);(subst hvv;obtain⟨vs,elem,fz,h1,h2,h3,h4,h5,h6,h7,h8⟩:=hi.row hb;have hps' :=oh FH;have cp:ps.length=ti.size:=by rw[<- hlen,hps'];simp);have dh:i<es.length:=(qF he).1;have P3:e.length=sz:=h6 e (z6 he);have dK:i*sz+sz<=vs.size:=by rw[h3,<- B?];exact mulR _ o?
    obtain⟨w',g1,g2,g3,ei,g4,g5,g6⟩:=uG (P:=P) (ι β).b (i*sz+o) elem fz vv.cells.toList 0 w vs h1 h2 v? c3;rw[Q3 ht _ _ mr];refine⟨w',jY ι β (ι β),g1, ?_⟩;rw[<- cp]at ho |-;have px: ∀(i' :Nat) e',(es.set i (e.take o++ps++e.drop (o+ps.length)))[i']? =some e' ->
      (i' =i/\e' =e.take o++ps++e.drop (o+ps.length))\/(i' ≠i/\es[i']? =some e'):=by
     intro i' e' h;rw[N!]at h;by_cases P6:i=i'
     ·subst P6;simp[dh]at h;exact .inl ⟨rfl,by rw[<- h];simp⟩
     simp[P6]at h;exact .inr ⟨n_ P6,h⟩
    have hpf: ∀(j:Nat) p,ps[j]? =some p->p.kP=true/\ ∀u,vv.cells.toList[j]? =some u->RP w Im p u:=by (intro j p hp;have hy:y.cells[j]? =some (.pv p):=by rw[hps'];simp[hp]);refine⟨c2 _ (z6 hy),fun u hu=>?_⟩;have:=c4 j _ u hy hu;cases this;assumption
    have key:=zc.put (Xx:=noO hb rfl) hi (w' :=w') β (.row false sz (es.set i (e.take o++ps++e.drop (o+ps.length)))) (ι β)
     (fun x hx=>by rw[hb]at hx;cases hx;simp[xS,qE.sh,Pl.kD])
     ⟨o?,g2.2⟩ (fun b' _ jz=>g3 b' (fun e=>jz _ hb rfl e.symm)) (fun _=> .inr ⟨_,hb,rfl,rfl⟩) (fun mM=>by
      have hw: ∀b,Im b->w'.heap[b]? =w.heap[b]? :=fun b hb=>mM.bh hi b hb
      refine⟨ei,elem,fz,by simpa using g4,by rw[g5];exact h2,by rw[g5,h3];simp,h4,by simpa using h5, ?_, ?_, ?_⟩
      ·intro e' VR
       obtain⟨i',yw⟩:=kb VR
       rcases px i' e' yw with ⟨_,rfl⟩|⟨_,h⟩
       ·simp;omega
       exact h6 e' (z6 h)
      ·intro i' e' j p yw hj
       rcases px i' e' yw with ⟨_,rfl⟩|⟨_,h⟩
       ·rw[kK e ps o j ho]at hj
        split at hj
        ·exact(hpf _ p hj).1
        exact h7 i e j p he hj
       exact h7 i' e' j p h hj
      intro i' e' j p yw hj
      have Vr:j<sz:=by
       rcases px i' e' yw with ⟨_,rfl⟩|⟨_,h⟩
       ·have:=(qF hj).1
        simp at this
        omega
       have:=(qF hj).1
       have:=h6 e' (z6 h)
       omega
      rw[g6]
      simp only[M?,a_]
      have Nk:vv.cells.size=ps.length:=o?
      rw[Nk]
      rcases px i' e' yw with ⟨rfl,rfl⟩|⟨jz,h⟩
      ·rw[kK e ps o j ho]at hj
       split at hj
       ·rename_i hc
        rw[if_pos o?,show i' *sz+j-(i' *sz+o)=j-o from o?]
        obtain⟨u,hu⟩: ∃u,vv.cells.toList[j-o]? =some u:=⟨vv.cells.toList[j-o]'(v?),z?⟩
        exact⟨u,hu,((hpf _ p hj).2 u hu).mono mM.im hw⟩
       rename_i hc
       rw[if_neg o?]
       obtain⟨u,hu,hr⟩:=h8 i' e j p he hj
       exact⟨u,hu,hr.mono mM.im hw⟩
      obtain⟨u,hu,hr⟩:=h8 i' e' j p h hj
      have lN: ¬(i*sz+o<=i' *sz+j/\i' *sz+j<i*sz+o+ps.length):=by
       rcases z_ jz with xJ|P4
       ·have:(i' +1)*sz<=i*sz:=mulR _ xJ
        rw[B?]at this
        omega
       have:(i+1)*sz<=i' *sz:=mulR _ P4
       rw[B?]at this
       omega
      rw[if_neg lN]
      exact⟨u,hu,hr.mono mM.im hw⟩)
    exact⟨key.1,key.2,β,_,_,rfl,hb⟩
   rename_i sz es hb;exact UE ht hi hx c1 c2 c3 c4 hlen hb hr;cases hr
  split at hr;rename_i sz es hb;exact UE ht hi hx c1 c2 c3 c4 hlen hb hr;rename_i ds es lg hb;exact Eb ht hi hx hy hb hr;cases hr
 cases hr
end
section
variable [xg] {P:Program} {w:World} {H:qr} {ι:yq} {Im:Nat->Prop}
theorem zN.struct{t:TypeId}{ti:TI}(ht:zN P t ti){fs:List (Nat×Nat×TypeId)}(h:ti.td= .struct fs):
  ∃fields,P.underlying t=some (.struct fields)/\fs=fields.toList.map fun f=>(f.offset,P.cellsOf f.type,f.type):=by obtain⟨d,h1,h2⟩:=ht.und;rw[h]at h2;cases d<;>simp[K8]at h2;exact⟨_,h1,h2.symm⟩
theorem zN.array{t:TypeId}{ti:TI}(ht:zN P t ti){n:Nat}{e:TypeId}(h:ti.td= .array n e):P.underlying t=some (.array n e):=by obtain⟨d,h1,h2⟩:=ht.und;rw[h]at h2;cases d<;>simp[K8]at h2;obtain⟨rfl,rfl⟩:=h2;exact h1
theorem zN.slice{t:TypeId}{ti:TI}(ht:zN P t ti){e:TypeId}(h:ti.td= .slice e):P.underlying t=some (.slice e):=by obtain⟨d,h1,h2⟩:=ht.und;rw[h]at h2;cases d<;>simp[K8]at h2;obtain rfl:=h2;exact h1
theorem zN.map{t:TypeId}{ti:TI}(ht:zN P t ti){k e:TypeId}(h:ti.td= .map k e):P.underlying t=some (.map k e):=by obtain⟨d,h1,h2⟩:=ht.und;rw[h]at h2;cases d<;>simp[K8]at h2;obtain⟨rfl,rfl⟩:=h2;exact h1
theorem zN.int{t:TypeId}{ti:TI}(ht:zN P t ti){k:IntKind}(h:ti.td= .int k):P.underlying t=some (.int k):=by obtain⟨d,h1,h2⟩:=ht.und;rw[h]at h2;cases d<;>simp[K8]at h2;obtain rfl:=h2;exact h1
theorem zN.string{t:TypeId}{ti:TI}(ht:zN P t ti)(h:ti.td= .string):P.underlying t=some .string:=by obtain⟨d,h1,h2⟩:=ht.und;rw[h]at h2;cases d<;>simp[K8]at h2;exact h1
theorem zN.bool{t:TypeId}{ti:TI}(ht:zN P t ti)(h:ti.td= .bool):P.underlying t=some .bool:=by obtain⟨d,h1,h2⟩:=ht.und;rw[h]at h2;cases d<;>simp[K8]at h2;exact h1
theorem UX{t:TypeId}(h:0<P.cellsOf t):(sizeOf t).run P w= .ok (P.cellsOf t) w:=by unfold Program.cellsOf at h |-;cases hi:P.info? t with|none=>simp[hi]at h|some i=>simp[sizeOf,gV hi]
theorem zN.cellsOf{t:TypeId}{ti:TI}(ht:zN P t ti):P.cellsOf t=ti.size:=by obtain⟨i,z,h1,h2,_⟩:=ht.info;simp[Program.cellsOf,h1,h2]
theorem sg(b o:Nat)(f:Field)(h:0<P.cellsOf f.type):(fieldPlace ⟨b,o,none⟩ f).run P w= .ok ⟨b,o+f.offset,none⟩ w:=by unfold fieldPlace;have: ¬P.cellsOf f.type=0:=o?;simp[UX h,this,add_plain]
theorem VG{t:TypeId}{ti:TI}(ht:zN P t ti){x:AV}{v:Value}(hx:RA w H ι Im x v)
  {f:Nat} {r:AV} (hr:oe ti.td x f=some r): ∃u,(Instr.fieldAt t v f).run P w= .ok u w/\RA w H ι Im r u:=by
 unfold oe at hr;split at hr;rotate_left;cases hr;rename_i fs jw;obtain⟨fields,hu,rfl⟩:=ht.struct jw;split at hr;rotate_left;cases hr;rename_i o' s te hf;split at hr;rotate_left;cases hr;rename_i hs;simp only[X?,yR]at hf;obtain⟨fd,hf,hfe⟩:=hf;simp only[Prod.mk.injEq]at hfe;obtain⟨rfl,rfl,rfl⟩:=hfe;have hfa:fields[f]? =some fd:=by rw[<- hf];simp
 unfold Instr.fieldAt Instr.sureAddr;split at hr;(rename_i β o;cases hr;cases hx with|ptr _ _ c hb hk=>refine⟨.pointer (some ⟨(ι β).b,o+fd.offset,none⟩), ?_,.ptr β _ c hb hk⟩;simp[qx hu,hfa,sg _ _ fd hs]);(rename_i β xf j o;cases hr;cases hx with|uI _ _ _ _ b' o' b hb jA h=>refine⟨.pointer (some ⟨b',o' +fd.offset,none⟩), ?_,.uI β xf j _ b' _ b hb jA fun qu sz es e hv hn=>?_⟩;simp[qx hu,hfa,sg _ _ fd hs];obtain⟨g1,g2⟩:=h qu sz es e hv hn;exact⟨g1,o?⟩);(rename_i c o;cases hr;cases hx with|tU _ _ b off vs QF hc hf h=>refine⟨.pointer (some ⟨b,off+o+fd.offset,none⟩), ?_, ?_⟩;simp[qx hu,hfa,sg _ _ fd hs];rw[i!];exact .tU c _ b off vs QF hc hf h)
 ·rename_i c;cases hr;cases hx with
  |pv _ _ h=>cases h with
   |rp _ b off vs QF hc hf h=>
    refine⟨.pointer (some ⟨b,off+fd.offset,none⟩), ?_,.tU c _ b off vs QF hc hf h⟩;simp[qx hu,hfa,sg _ _ fd hs]
 cases hr
theorem X9{x:AV}{v:Value}(hx:RA w H ι Im x v){k:Nat}(h:vM x=some k): ∃kd,v= .int kd (k:Int):=by unfold vM at h;split at h;(split at h<;>cases h;rename_i kd n hn;cases hx with|pv _ _ h=>cases h;exact⟨kd,by rw[q07 hn]⟩);cases h
theorem VH{G:TypeId->Option TI}(hG: ∀t ti,G t=some ti->zN P t ti){t:TypeId}{ti:TI}(ht:zN P t ti)(hi:zc w H ι Im)
  {x y:AV} {v u:Value} (hx:RA w H ι Im x v) (hy:RA w H ι Im y u) {r:AV} (hr:tG ti.td G x y H=some r):
  ∃z,(Instr.indexAt t v u).run P w= .ok z w/\RA w H ι Im r z:=by
 unfold tG at hr;split at hr;cases hr;rename_i k hk;obtain⟨kd,rfl⟩:=X9 hy hk;split at hr
 ·rename_i e jw;have hu:=ht.slice jw;split at hr;cases hr;rename_i te dC;have sH:=hG _ _ dC;split at hr
  ·rename_i qu sz es;split at hr;rotate_left;cases hr
   rename_i mr;split at hr<;>cases hr;rename_i c hc;have pf:k<es.length:=(qF hc).1;cases hx with
   |pv _ _ h=>cases h with
    |aS sz=>simp at pf
    |sl _ _ b off cap vs QF JX hs Wg hf h sp C2=>
     obtain rfl:=C2 (by intro e;subst e;simp at pf);refine⟨.pointer (some ⟨b,off+k*sz,none⟩), ?_, ?_⟩
     ·unfold Instr.indexAt asIntOf;simp[qx hu,pf,sH.size,add_plain,mr]
     have:=RA.tU (w:=w) (H:=H) (ι:=ι) (Im:=Im) c 0 b (off+k*sz) (fun j=>vs (k*sz+j)) (QF (by intro e;subst e;simp at pf)) (fun j hj=>?_) (fun p hp=>?_) (fun j p hp=>h k c j p hc hp)
     ·simpa using this
     ·have SQ:=hs c (z6 hc);rw[i!];refine Wg _ ?_;have:(k+1)*sz<=es.length*sz:=mulR _ pf;rw[B?]at this;omega
     obtain⟨j,hj⟩:=kb hp;exact hf k c j p hc hj
  rename_i β xf off n;split at hr;(rename_i sz es hb;split at hr<;>cases hr;rename_i hc;obtain⟨jA,mr,hkn⟩:=hc;cases hx with|row _ _ _ _ _ b ho js ZG hver' h=>rw[hb]at js;cases js;obtain⟨h1,h2⟩:=h _ _ _ rfl jA;simp only[ko,if_false]at h2;obtain⟨a,rfl,oP,eU,Qm⟩:=h2;obtain⟨vs,elem,fz,g1,g2,g3,g4,g5,_⟩:=hi.row hb;have ha4:=Qm o?;obtain⟨ab,ao,DT⟩:=a;simp only at oP eU ha4;subst oP eU ha4;refine⟨.pointer (some ⟨(ι β).b,off*sz+k*sz,none⟩), ?_,.uI β xf (off+k) 0 _ _ _ hb (fun _ _ _ e=>by cases e;omega) fun _ _ _ e _ _=>?_⟩;unfold Instr.indexAt asIntOf;simp[qx hu,hkn,sH.size,add_plain,mr];cases e;exact⟨rfl,by rw[T?];rfl⟩);(rename_i sz es hb;split at hr<;>cases hr;rename_i hc;obtain⟨jA,mr,hkn⟩:=hc;cases hx with|row _ _ _ _ _ b ho js ZG hver' h=>rw[hb]at js;cases js;obtain⟨h1,h2⟩:=h _ _ _ rfl jA;simp only[ko,if_false]at h2;obtain⟨a,rfl,oP,eU,Qm⟩:=h2;obtain⟨vs,elem,fz,g1,g2,g3,g4,g5,_⟩:=hi.mB hb;have ha4:=Qm o?;obtain⟨ab,ao,DT⟩:=a;simp only at oP eU ha4;subst oP eU ha4;refine⟨.pointer (some ⟨(ι β).b,off*sz+k*sz,none⟩), ?_,.uI β xf (off+k) 0 _ _ _ hb (fun _ _ _ e=>by cases e;omega) fun _ _ _ e _ _=>?_⟩;unfold Instr.indexAt asIntOf;simp[qx hu,hkn,sH.size,add_plain,mr];cases e;exact⟨rfl,by rw[T?];rfl⟩);(rename_i ds es lg hb;split at hr<;>cases hr;rename_i hc;obtain⟨jA,mr,hkn⟩:=hc;cases hx with|row _ _ _ _ _ b ho js ZG hver' h=>rw[hb]at js;cases js;obtain⟨h1,h2⟩:=h _ _ _ rfl jA;simp only[ko,if_false]at h2;obtain⟨a,rfl,oP,eU,Qm⟩:=h2;obtain⟨vs,elem,fz,g1,g2,g3,g4,_⟩:=hi.jf hb;have ha4:=Qm o?;obtain⟨ab,ao,DT⟩:=a;simp only at oP eU ha4;subst oP eU ha4;refine⟨.pointer (some ⟨(ι β).b,off*1+k*1,none⟩), ?_,.uI β xf (off+k) 0 _ _ _ hb (fun _ _ _ e=>by cases e;omega) fun _ _ _ e _ _=>?_⟩;unfold Instr.indexAt asIntOf;simp[qx hu,hkn,sH.size,add_plain,mr];cases e;exact⟨rfl,by rw[T?];rfl⟩);cases hr;cases hr
 {rename_i len e jw;have hu:=ht.array jw;split at hr;cases hr;rename_i te dC;have sH:=hG _ _ dC;split at hr;rotate_left;cases hr;rename_i pf;split at hr;(rename_i β o;cases hr;cases hx with|ptr _ _ c hb hk=>refine⟨.pointer (some ⟨(ι β).b,o+k*te.size,none⟩), ?_,.ptr β _ c hb hk⟩;unfold Instr.indexAt asIntOf Instr.sureAddr;simp[qx hu,pf,sH.size,add_plain]);(rename_i β xf j o;cases hr;cases hx with|uI _ _ _ _ b' o' b hb jA h=>refine⟨.pointer (some ⟨b',o' +k*te.size,none⟩), ?_,.uI β xf j _ b' _ b hb jA fun qu sz es e hv hn=>?_⟩;unfold Instr.indexAt asIntOf Instr.sureAddr;simp[qx hu,pf,sH.size,add_plain];obtain⟨g1,g2⟩:=h qu sz es e hv hn;exact⟨g1,o?⟩);(rename_i c o;cases hr;cases hx with|tU _ _ b off vs QF hc hf h=>refine⟨.pointer (some ⟨b,off+o+k*te.size,none⟩), ?_, ?_⟩;unfold Instr.indexAt asIntOf Instr.sureAddr;simp[qx hu,pf,sH.size,add_plain];rw[i!];exact .tU c _ b off vs QF hc hf h);cases hr};cases hr
theorem Bx{t:TypeId}{ti:TI}(ht:zN P t ti){x:AV}{v:Value}(hx:RA w H ι Im x v){off:Nat}{r:AV}
  (hr:Bw ti x off=some r): ∃cs u,v= .agg cs/\(part t cs off).run P w= .ok u w/\RA w H ι Im r u:=by
 have key: ∀(c:List AV)(vs:List Value),c.length=vs.length->(∀ x∈c,x.kP=true)->
   (∀(i:Nat) x v,c[i]? =some x->vs[i]? =some v->RA w H ι Im x v)->EP ti (c.drop off)=some r-> ∃u,(part t ⟨vs⟩ off).run P w= .ok u w/\RA w H ι Im r u:=by
  intro c vs hl hf h hr;unfold EP at hr;unfold part;simp only[jT,ht.isAgg,me];by_cases ha:ti.isAgg=true
  ·simp only[ha,if_true]at hr |-;split at hr<;>cases hr;rename_i hlen;refine⟨.agg ⟨(vs.drop off).take ti.size⟩,by simp[ht.size],lT v? (fun x hx=>hf x (x! (W? hx))) ?_⟩;intro i x v h1 h2;by_cases hi:i<ti.size
   ·rw[V? hi,v!]at h1 h2;exact h _ x v h1 h2
   have:=(qF h1).1;simp at this;omega
  simp only[ha,ko,if_false]at hr |-;split at hr<;>cases hr;rename_i x r' hd;have hx:c[off]? =some r:=by
   have:=congrArg (fun l=>l[0]?) hd;simpa using this
  have xJ:off<vs.length:=by rw[<- hl];exact(qF hx).1
  refine⟨vs[off], ?_,h off r _ hx (by simp[xJ])⟩;have:(⟨vs⟩:Array Value)[off]? =some vs[off]:=by simp[xJ]
  simp[this]
 unfold Bw at hr;split at hr
 ·rename_i c;cases hx with
  |pv _ _ h=>cases h with
   |agg _ vs hl hf h=>
    have hr' :EP ti ((c.map AV.pv).drop off)=some r:=by
     rw[<- List.map_drop];unfold ldP at hr;unfold EP;by_cases ha:ti.isAgg=true
     ·simp only[ha,if_true,s_]at hr |-;split at hr<;>cases hr;rename_i hlen;rw[if_pos hlen,<- List.map_take];congr 1;unfold Jy;have: ∀l:List PV,lv (l.map AV.pv)=some l:=by
       intro l;induction l with
       |nil=>rfl
       |cons x r ih=>simp[lv,ih]
      rw[this]
     simp only[ha,ko,if_false]at hr |-;split at hr<;>cases hr;rename_i x r' hd;simp[hd]
    obtain⟨u,g1,g2⟩:=key (c.map .pv) vs (by simpa using hl) (fun y hy=>by
     simp only[N?]at hy
     obtain⟨p,hp,rfl⟩:=hy
     exact hf p hp) (fun i y u hy hu=>by
     simp only[X?,yR]at hy
     obtain⟨p,hp,rfl⟩:=hy
     exact .pv _ _ (h i p u hp hu)) hr'
    exact⟨_,u,rfl,g1,g2⟩
 (rename_i c;cases hx with|agg _ vs hl hf h=>obtain⟨u,g1,g2⟩:=key c vs hl hf h hr;exact⟨_,u,rfl,g1,g2⟩);cases hr
end
section
variable [xg] {P:Program} {w:World} {H:qr} {ι:yq} {Im:Nat->Prop}
def Bd(X:Nat->Prop)(H:qr)(nx:Nat):Prop:= ∀β b,H.get β=some b->β<nx\/X β
def tD(X:Nat->Prop)(w:World)(H:qr)(ι:yq)(Im:Nat->Prop)(nx:Nat)(e:mC)(u:Value)(w' :World):Prop:=
 ∃ι',zc w' (qZ e.2.1 H) ι' Im/\wR w H ι Im w' (qZ e.2.1 H) ι' Im/\RA w' (qZ e.2.1 H) ι' Im e.1 u/\nx<=e.2.2/\
  Bd X (qZ e.2.1 H) e.2.2
theorem tD.pure(hi:zc w H ι Im){nx:Nat}{X:Nat->Prop}(xY:Bd X H nx){r:AV}{u:Value}(h:RA w H ι Im r u):
  tD X w H ι Im nx (r,[],nx) u w:=⟨ι,hi,wR.refl _ _ _ _,h,jx _,xY⟩
theorem Wb{nx:Nat}{X:Nat->Prop}(xY:Bd X H nx)(hX: ¬X nx):H.get nx=none:=by cases h:H.get nx with|none=>rfl|some b=>rcases xY nx b h with h|h;omega;exact absurd h hX
theorem yS{nx:Nat}{X:Nat->Prop}(xY:Bd X H nx){γ:Nat}{y:qE}{n:Nat}(hn:nx<=n)(hγ:γ<n\/X γ):Bd X (qZ [(γ,y)] H) n:=by intro β b h;simp only[qZ,qr.zg]at h;split at h;rename_i e;subst e;exact hγ;rcases xY β b h with h|h;exact .inl o?;exact .inr h
theorem aT{X:Nat->Prop}{nx:Nat}(h: ∀γ,X γ->nx+1<=γ): ¬X nx:=fun hx=>by have:=h _ hx;omega
theorem zc.new(hi:zc w H ι Im){nx:Nat}{X:Nat->Prop}(xY:Bd X H nx)(hX: ¬X nx)(w' :World)(y:qE)(o:Obj)(cap:Nat)
  (hw:w'.heap=w.heap.push o) (Ll:w'.os=w.os/\w'.output=w.output)
  (l6: ∀ι',ι' nx=⟨w.heap.size,cap,[]⟩->wR w H ι Im w' (H.put nx y) ι' Im->rE w' (H.put nx y) ι' Im nx y) (hyO:y.C7=false:=by rfl):
  ∃ι',ι' nx=⟨w.heap.size,cap,[]⟩/\zc w' (H.put nx y) ι' Im/\wR w H ι Im w' (H.put nx y) ι' Im:=by
 have hf:=Wb xY hX;obtain⟨h1,h2⟩:=zc.put (Xx:=NV hf) (hy:=hyO) hi (w' :=w') nx y ⟨w.heap.size,cap,[]⟩ (fun x hx=>by rw[hf]at hx;cases hx) ⟨by rw[hw];simp,Ll⟩
  (fun b hb _=>by rw[hw];simp[Array.getElem?_push,Nat.ne_of_lt hb]) (fun _=> .inl (jx _))
  (l6 _ z?)
 exact⟨_,z?,h1,h2⟩
theorem kh(n:Nat):wC (0,0) n:=⟨jx _,fun i _ h=>by simp at h⟩
theorem Cj(hi:zc w H ι Im){nx:Nat}{X:Nat->Prop}(xY:Bd X H nx)(hX: ¬X nx)(c:List AV)(vs:List Value)(elem:TypeId)
  (hl:c.length=vs.length) (hf: ∀x∈c,x.kP=true) (h: ∀(i:Nat) x v,c[i]? =some x->vs[i]? =some v->RA w H ι Im x v):
  tD X w H ι Im nx (.ptr nx 0,[(nx,.box c)],nx+1) (.pointer (some ⟨w.heap.size,0,none⟩)) { w with heap:=w.heap.push (.cells ⟨vs⟩ elem) }:=by
 obtain⟨ι',h0,h1,h2⟩:=zc.new hi xY hX { w with heap:=w.heap.push (.cells ⟨vs⟩ elem) } (.box c) (.cells ⟨vs⟩ elem) 0 rfl ⟨rfl,rfl⟩ (fun ι' hp he=>by
  refine⟨⟨vs⟩,elem,(0,0),by simp[hp],kh _,by simpa using hl,hf,fun i x v hx hv=>?_⟩
  exact(h i x v hx (by simpa using hv)).mono hi he)
 refine⟨ι',h1,h2, ?_,z?,yS xY z? (.inl z?)⟩;have hg:(qZ [(nx,qE.box c)] H).get nx=some (.box c):=by simp[qZ,qr.zg]
 have:=RA.ptr (w:={ w with heap:=w.heap.push (.cells ⟨vs⟩ elem) }) (ι:=ι') (Im:=Im) nx 0 _ hg rfl;rw[h0]at this;exact this
theorem Zq(t:TypeId)(v:Value):(newVar t v).run P w= .ok ⟨w.heap.size,0,none⟩ { w with heap:=w.heap.push (.cells v.cells t) }:=by simp[newVar,newRow]
theorem Qx{t:TypeId}{ti:TI}(ht:zN P t ti): ∃z,(zeroValue t).run P w= .ok z w/\ti.zero.length=z.cells.size/\
  (∀(i:Nat) p v,ti.zero[i]? =some p->z.cells.toList[i]? =some v->RP w Im p v)/\Zh z=ti.td.isAgg:=by obtain⟨i,z,h1,h2,h3,h4,h5,h6⟩:=ht.info;obtain⟨g1,g2,g3⟩:=Xi (w:=w) (Im:=Im) h5;refine⟨z,by simp[zeroValue,gV h1,h4],by simpa using g1,g3,h6⟩
theorem DH{t:TypeId}{ti:TI}(ht:zN P t ti)(hi:zc w H ι Im){nx:Nat}{X:Nat->Prop}(xY:Bd X H nx)(hX: ¬X nx):
  ∃u w',(Instr.alloc t true (.tuple #[])).run P w= .ok u w' /\tD X w H ι Im nx (.ptr nx 0,[(nx,.box (ti.zero.map .pv))],nx+1) u w' :=by obtain⟨z,h1,h2,h3,_⟩:=Qx (w:=w) (Im:=Im) ht;refine⟨_,_, ?_,Cj hi xY hX (ti.zero.map .pv) z.cells.toList t (by simpa using h2) (fun x hx=>?_) (fun i x v hx hv=>?_)⟩;unfold Instr.alloc;simp[h1,Zq];simp only[N?]at hx;obtain⟨p,hp,rfl⟩:=hx;exact ht.kP p hp;simp only[X?,yR]at hx;obtain⟨p,hp,rfl⟩:=hx;exact .pv _ _ (h3 i p v hp hv)
theorem PG{G:GP}{t:TypeId}{ti:TI}(ht:zN P t ti)(hi:zc w H ι Im){nx:Nat}{X:Nat->Prop}(xY:Bd X H nx){e:mC}(hr:ZL G t ti nx=some e)(hX: ∀γ,X γ->e.2.2<=γ):
  ∃u w',(Instr.alloc t true (.tuple #[])).run P w= .ok u w' /\tD X w H ι Im nx e u w' :=by unfold ZL at hr;cases hr
theorem aBox_ok{t:TypeId}(hi:zc w H ι Im){nx:Nat}{X:Nat->Prop}(xY:Bd X H nx)(hX: ¬X nx){x:AV}{v:Value}(hx:RA w H ι Im x v)(hs:x.MN=true):
  ∃u w',(Instr.box t v).run P w= .ok u w' /\tD X w H ι Im nx (.ptr nx 0,[(nx,.box x.cells)],nx+1) u w' :=by obtain⟨c1,c2,c3,c4⟩:=AV.fe hx hs;refine⟨_,_, ?_,Cj hi xY hX x.cells v.cells.toList t (by simpa using c1) c2 c4⟩;unfold Instr.box;simp[Zq]
theorem Oe{t:TypeId}(hi:zc w H ι Im){x:AV}{v:Value}(hx:RA w H ι Im x v)(hs:x.MN=true){l:List PV}(hl:lv x.cells=some l):
    ∃u w' jV,(Instr.box t v).run P w= .ok u w' /\zc w' H ι jV/\wR w H ι Im w' H ι jV/\RA w' H ι jV (.pv (.rp l)) u:=by
  obtain⟨c1,c2,c3,c4⟩:=AV.fe hx hs
  have Xw:=oh hl
  have hold: ∀b,b<w.heap.size->(w.heap.push (.cells v.cells t))[b]? =w.heap[b]? :=fun b hb=>by simp[e_,Y' hb]
  have he:wR w H ι Im { w with heap:=w.heap.push (.cells v.cells t) } H ι (fun b=>Im b\/b=w.heap.size):=
    { comp:=fun β b h=>⟨b,h,uU b _⟩
      im:=fun _ h=> .inl h
      ta:=fun b h=>by
        rcases h with h|h
        · exact .inl h
        · exact .inr (.inl o?)
      nT:=fun β x z h hu=> .inr ⟨β,x,h,hu⟩
      kD:=fun b hb _=>hold b hb
      size:=z?
      io:=⟨rfl,rfl⟩ }
  refine⟨.pointer (some ⟨w.heap.size,0,none⟩), { w with heap:=w.heap.push (.cells v.cells t) },fun b=>Im b\/b=w.heap.size, ?_, ?_,he, ?_⟩
  · unfold Instr.box
    simp[Zq]
  · exact{
      rB:=fun β b hb=>(hi.rB β b hb).mono hi he (fun hu=>⟨rfl,fun x hx=>hold _ ((hi.rB β b hb).cn hx)⟩)
      inj:=hi.inj
      im:=fun b h=>by
        rcases h with h|h
        · have:=hi.im b h;simp;omega
        · simp;omega
      Vt:=fun β b z hb hu h=>by
        rcases h with h|h
        · exact hi.Vt β b z hb hu h
        · have:=(hi.rB β b hb).cn hu;omega
      Na:=xg.go hi.Na hi.VP fun b hb=>hold b (hi.im b hb)
      VP:=fun b hb=> .inl (hi.VP b hb) }
  · refine .pv _ _ (.rp l w.heap.size 0 (fun i=>(v.cells[i]?).getD undef) (.inr rfl) (fun i xJ=>?_) (fun p hp=>?_) (fun i p hp=>?_))
    · have hlt' :i<v.cells.size:=by rw[<- c1,Xw];simpa using xJ
      simp[J',hlt']
    · have:=c2 (.pv p) (by rw[Xw];exact N?.2 ⟨p,hp,rfl⟩)
      exact this
    · have h1:x.cells[i]? =some (.pv p):=by rw[Xw];simp[hp]
      have hlt' :i<v.cells.size:=by rw[<- c1];exact(qF h1).1
      have h2:v.cells.toList[i]? =some v.cells[i]:=by simp[hlt']
      have h3:=(c4 i _ _ h1 h2).mono hi he
      simp only[hlt',Array.getElem?_eq_getElem,c!]
      cases h3 with|pv _ _ h=>exact h
theorem Yy(off:Nat): ∀(l:List Value)(j:Nat)(cs:Array Value),off+j+l.length<=cs.size->
  ((l.zipIdx j).foldl (fun cs (c,j)=>cs.setIfInBounds (off+j) c) cs).size=cs.size/\
  ∀k,((l.zipIdx j).foldl (fun cs (c,j)=>cs.setIfInBounds (off+j) c) cs)[k]? =if off+j<=k/\k<off+j+l.length then l[k-(off+j)]? else cs[k]?
 |[],j,cs,_=>⟨rfl,fun k=>by rw[if_neg z?];rfl⟩
 |x::r,j,cs,h=>by simp only[h?]at h;obtain⟨h1,h2⟩:=Yy off r (j+1) (cs.setIfInBounds (off+j) x) v?;simp only[List.zipIdx_cons,List.foldl_cons];refine⟨by simpa using h1,fun k=>?_⟩;rw[h2 k];simp only[h?,U_];by_cases hk:off+(j+1)<=k/\k<off+(j+1)+r.length;rw[if_pos hk,if_pos o?];obtain⟨m,rfl⟩: ∃m,k=off+j+(m+1):=⟨k-(off+j+1),o?⟩;rw[show off+j+(m+1)-(off+(j+1))=m from o?,show off+j+(m+1)-(off+j)=m+1 from o?];rfl;rw[if_neg hk];by_cases SV:off+j=k;subst SV;rw[if_pos rfl,if_pos o?,if_pos o?];simp;rw[if_neg SV,if_neg o?]
theorem eA(off:Nat)(l:Array Value)(cs:Array Value)(h:off+l.size<=cs.size):
  (l.zipIdx.foldl (fun cs (c,j)=>cs.setIfInBounds (off+j) c) cs).size=cs.size/\
  ∀k,(l.zipIdx.foldl (fun cs (c,j)=>cs.setIfInBounds (off+j) c) cs)[k]? =if off<=k/\k<off+l.size then l[k-off]? else cs[k]? :=by have h1:=Yy off l.toList 0 cs (by simpa using h);rw[<- Array.foldl_toList];simpa using h1
def Sr(w:World)(H:qr)(ι:yq)(Im:Nat->Prop)(c:List AV)(cs:Array Value):Prop:=
 c.length=cs.size/\(∀ x∈c,x.kP=true)/\ ∀(i:Nat) x v,c[i]? =some x->cs[i]? =some v->RA w H ι Im x v
theorem W4{a:Act}{E:yp}(hE: ∀t,RA w H ι Im (E.get t) (a.tmps.getD t undef))(qY Re:Nat->Option (Nat×Nat))
  (cp: ∀i x,qY i=some x->Re i=some x): ∀(parts:List (Nat×Operand))(c:List AV)(cs:Array Value),Sr w H ι Im c cs->
  ∀{r:List AV},lG qY (ev E) parts c=some r-> ∃rs,Instr.fill Re cs (parts.map fun(i,x)=>(i,a.eval x))=some rs/\Sr w H ι Im r rs
 |[],c,cs,hc,r,h=>by simp only[lG,ki]at h;subst h;exact⟨cs,rfl,hc⟩
 |(i,x)::rest,c,cs,hc,r,h=>by simp only[lG]at h;split at h;rotate_left;cases h;rename_i off size hp;split at h;rotate_left;cases h;(rename_i Nc;obtain⟨hs,hl,ho⟩:=Nc;have hx:=QP hE x;obtain⟨c1,c2,c3,c4⟩:=AV.fe hx hs;obtain⟨d1,d2,d3⟩:=hc;have EL:(a.eval x).cells.size=size:=o?;obtain⟨f1,f2⟩:=eA off (a.eval x).cells cs o?;have GH:Sr w H ι Im (c.take off++(ev E x).cells++c.drop (off+size)) ((a.eval x).cells.zipIdx.foldl (fun cs (c,j)=>cs.setIfInBounds (off+j) c) cs):=by refine⟨by rw[f1];simp;omega,fun y hy=>?_,fun k y v hy hv=>?_⟩;simp only[m?]at hy;rcases hy with (hy|hy)|hy;exact d2 y (W? hy);exact c2 y hy;exact d2 y (x! hy);rw[<- hl,kK c (ev E x).cells off k o?]at hy;rw[f2 k,EL,<- hl]at hv;split at hy;rename_i hk;rw[if_pos hk]at hv;exact c4 _ y v hy (by simpa using hv);rename_i hk;rw[if_neg hk]at hv;exact d3 k y v hy hv);(obtain⟨rs,g1,g2⟩:=W4 hE qY Re cp rest _ _ GH h;refine⟨rs, ?_,g2⟩;simp only[s?,Instr.fill,cp _ _ hp];have Xx: ¬(decide ((a.eval x).cells.size≠size) || decide (off+(a.eval x).cells.size>cs.size))=true:=by simp only[z!,decide_eq_true_eq];omega);rw[if_neg Xx];exact g1
theorem K6(fields:Array Field)(sz:Field->Nat)(h: ∀f∈fields.toList,(sizeOf f.type).run P w= .ok (sz f) w):
  (fields.mapM fun f=>do pure (f.offset,<- sizeOf f.type):Sem _).run P w= .ok (fields.map fun f=>(f.offset,sz f)) w:=by
 rw[Array.mapM_eq_mapM_toList];have key: ∀(l:List Field),(∀ f∈l,(sizeOf f.type).run P w= .ok (sz f) w)->
   (l.mapM fun f=>do pure (f.offset,<- sizeOf f.type):Sem _).run P w= .ok (l.map fun f=>(f.offset,sz f)) w:=by
  intro l;induction l with
  |nil=>intro _;simp
  |cons f r ih=>
   intro h;have h1:=h f z?;have h2:=ih fun g hg=>h g (by simp[hg]);simp only[List.mapM_cons,jT,h1,me,K?,h2,s?]
 simp only[Sem.run_map,key fields.toList h,me];congr 1;apply D!;simp
theorem MC{t:TypeId}{i:TypeInfo}(h:P.info? t=some i):(sizeOf t).run P w= .ok (P.cellsOf t) w:=by simp[sizeOf,gV h,Program.cellsOf,h]
theorem DI{G:TypeId->Option TI}(hG: ∀t ti,G t=some ti->zN P t ti){t:TypeId}{ti:TI}(ht:zN P t ti)
  {a:Act} {E:yp} (hE: ∀t,RA w H ι Im (E.get t) (a.tmps.getD t undef)) (parts:Array (Nat×Operand)) {r:AV} (hr:KB ti G (ev E) parts.toList=some r):
  ∃u,(Instr.build t (parts.map fun(i,x)=>(i,a.eval x))).run P w= .ok u w/\RA w H ι Im r u:=by
 obtain⟨z,h1,h2,h3,h4⟩:=Qx (w:=w) (Im:=Im) ht;have hz:Sr w H ι Im (ti.zero.map .pv) z.cells:=by refine⟨by simpa using h2,fun x hx=>?_,fun i x v hx hv=>?_⟩;simp only[N?]at hx;obtain⟨p,hp,rfl⟩:=hx;exact ht.kP p hp;simp only[X?,yR]at hx;obtain⟨p,hp,rfl⟩:=hx;exact .pv _ _ (h3 i p v hp (by simpa using hv))
 have XR:(parts.map fun(i,x)=>(i,a.eval x)).toList=parts.toList.map fun(i,x)=>(i,a.eval x):=z?;unfold KB at hr;unfold Instr.build;simp only[jT,h1,me];split at hr
 ·rename_i fs jw;obtain⟨fields,hu,rfl⟩:=ht.struct jw;have hkn: ∀f∈fields.toList,(sizeOf f.type).run P w= .ok (P.cellsOf f.type) w:=by intro f hf;have hk:=ht.known;unfold lF at hk;rw[hu]at hk;have:=List.all_eq_true.1 hk f hf;obtain⟨i,hi⟩:=Option.isSome_iff_exists.1 this;exact MC hi
  split at hr<;>cases hr;rename_i c hc;obtain⟨rs,g1,g2⟩:=W4 hE _ ((fields.map fun f=>(f.offset,P.cellsOf f.type))[·]?) (fun i x hx=>by
   unfold lE at hx
   simp only[X?]at hx
   cases hf:fields.toList[i]? with
   |none=>simp[hf]at hx
   |some f=>
    simp only[hf,F!,ki]at hx
    have:fields[i]? =some f:=by rw[<- hf];simp
    simp[this,<- hx]) parts.toList _ _ hz hc
  simp only[qx hu,me,jT,K6 fields _ hkn,XR,g1];exact⟨.agg rs,z?,lT (by simpa using g2.1) g2.2.1 fun i x v hx hv=>g2.2.2 i x v hx (by simpa using hv)⟩
 {rename_i len e jw;have hu:=ht.array jw;split at hr;rotate_left;cases hr;rename_i te dC;split at hr<;>cases hr;rename_i c hc;obtain⟨rs,g1,g2⟩:=W4 hE _ (fun i=>some (i*te.size,te.size)) (fun i x hx=>hx) parts.toList _ _ hz hc;simp only[qx hu,me,jT,(hG _ _ dC).size,XR,g1];exact⟨.agg rs,z?,lT (by simpa using g2.1) g2.2.1 fun i x v hx hv=>g2.2.2 i x v hx (by simpa using hv)⟩};cases hr
end
section
variable [xg] {P:Program} {w:World} {H:qr} {ι:yq} {Im:Nat->Prop}
def xR(w:World)(Im:Nat->Prop)(sz:Nat)(es:List (List PV))(cs:Nat->Option Value):Prop:=
 (∀ e∈es,e.length=sz)/\(∀(i:Nat) e(j:Nat) p,es[i]? =some e->e[j]? =some p->p.kP=true)/\
 ∀(i:Nat) e(j:Nat) p,es[i]? =some e->e[j]? =some p-> ∃v,cs (i*sz+j)=some v/\RP w Im p v
theorem xR.mono{w' :World}{jV:Nat->Prop}(hi: ∀b,Im b->jV b)(hw: ∀b,Im b->w'.heap[b]? =w.heap[b]?){sz:Nat}{es:List (List PV)}
  {cs:Nat->Option Value} (h:xR w Im sz es cs):xR w' jV sz es cs:=
 ⟨h.1,h.2.1,fun i e j p a b=>let⟨v,g1,g2⟩:=h.2.2 i e j p a b;⟨v,g1,g2.mono hi hw⟩⟩
theorem Km(hi:zc w H ι Im){nx:Nat}{X:Nat->Prop}(xY:Bd X H nx)(hX: ¬X nx)(sz:Nat)(es:List (List PV))(cs:Array Value)(elem:TypeId)
  (fz:Nat×Nat) (cap:Nat) (w' :World) (hw:w'.heap=w.heap.push (.cells cs elem fz)) (Ll:w'.os=w.os/\w'.output=w.output) (hfz:wC fz cs.size) (mr:0<sz) (hc:cs.size=cap*sz)
  (JX:es.length<=cap) (h:xR w Im sz es (cs[·]?)):
  tD X w H ι Im nx (.row nx es.length 0 es.length,[(nx,.row false sz es)],nx+1) (.slice (some ⟨w.heap.size,0,none⟩) es.length cap) w' :=by
 obtain⟨ι',h0,h1,h2⟩:=zc.new hi xY hX w' (.row false sz es) (.cells cs elem fz) cap hw Ll (fun ι' hp he=>by
  have hk: ∀b,Im b->w'.heap[b]? =w.heap[b]? :=fun b hb=>he.bh hi b hb
  obtain⟨k1,k2,k3⟩:=h.mono he.im hk
  exact⟨cs,elem,fz,by simp[hp,hw],hfz,by simp[hp,hc],mr,by simp[hp,JX],k1,k2,k3⟩)
 refine⟨ι',h1,h2, ?_,z?,yS xY z? (.inl z?)⟩;have hg:(qZ [(nx,qE.row false sz es)] H).get nx=some (.row false sz es):=by simp[qZ,qr.zg]
 refine .row nx _ 0 _ _ _ rfl hg (fun _=>⟨_,_,_,rfl⟩) (fun _ _ _ e=>by cases e;exact jx _) fun _ _ _ e _=>?_;cases e;refine⟨z?, ?_⟩;simp only[ko,if_false];exact⟨⟨w.heap.size,0,none⟩,by simp[h0],rfl,by simp[h0],fun _=>z?⟩
def mj(w:World)(H:qr)(ι:yq)(Im:Nat->Prop)(sz:Nat)(es:List (List AV))(cs:Nat->Option Value):Prop:=
 (∀ e∈es,e.length=sz)/\(∀(i:Nat) e(j:Nat) x,es[i]? =some e->e[j]? =some x->x.kP=true)/\
 ∀(i:Nat) e(j:Nat) x,es[i]? =some e->e[j]? =some x-> ∃v,cs (i*sz+j)=some v/\RA w H ι Im x v
theorem mj.mono{w' :World}{H' :qr}{ι' :yq}{jV:Nat->Prop}(hi:zc w H ι Im)(he:wR w H ι Im w' H' ι' jV){sz:Nat}{es:List (List AV)}
  {cs:Nat->Option Value} (h:mj w H ι Im sz es cs):mj w' H' ι' jV sz es cs:=
 ⟨h.1,h.2.1,fun i e j p a b=>let⟨v,g1,g2⟩:=h.2.2 i e j p a b;⟨v,g1,g2.mono hi he⟩⟩
theorem q0D(hi:zc w H ι Im){nx:Nat}{X:Nat->Prop}(xY:Bd X H nx)(hX: ¬X nx)(sz:Nat)(es:List (List AV))(cs:Array Value)(elem:TypeId)
  (fz:Nat×Nat) (cap:Nat) (w' :World) (hw:w'.heap=w.heap.push (.cells cs elem fz)) (Ll:w'.os=w.os/\w'.output=w.output) (hfz:wC fz cs.size) (mr:0<sz) (hc:cs.size=cap*sz)
  (JX:es.length<=cap) (h:mj w H ι Im sz es (cs[·]?)):
  tD X w H ι Im nx (.row nx es.length 0 es.length,[(nx,.mB sz es)],nx+1) (.slice (some ⟨w.heap.size,0,none⟩) es.length cap) w' :=by
 obtain⟨ι',h0,h1,h2⟩:=zc.new hi xY hX w' (.mB sz es) (.cells cs elem fz) cap hw Ll (fun ι' hp he=>by
  obtain⟨k1,k2,k3⟩:=h.mono hi he
  exact⟨cs,elem,fz,by simp[hp,hw],hfz,by simp[hp,hc],mr,by simp[hp,JX],k1,k2,k3⟩)
 refine⟨ι',h1,h2, ?_,z?,yS xY z? (.inl z?)⟩;have hg:(qZ [(nx,qE.mB sz es)] H).get nx=some (.mB sz es):=by simp[qZ,qr.zg]
 refine .row nx _ 0 _ _ _ rfl hg (fun _=>⟨_,_,_,rfl⟩) (fun _ _ _ e=>by cases e;exact jx _) fun _ _ _ e _=>?_;cases e;refine⟨z?, ?_⟩;simp only[ko,if_false];exact⟨⟨w.heap.size,0,none⟩,by simp[h0],rfl,by simp[h0],fun _=>z?⟩
theorem Xg{x:AV}{v:Value}(hx:RA w H ι Im x v){p:PV}(h:WU x=some p):RP w Im p v:=by unfold WU at h;split at h<;>cases h;cases hx;assumption;cases hx with|o5 a=>exact .sl 0 [] a.block a.off 0 (fun _=>undef) (fun h=>absurd rfl h) (B! _) z? (fun i xJ=>by simp at xJ) z? z? a.spot (fun h=>absurd rfl h)
theorem PV.fe{p:PV}{v:Value}(h:RP w Im p v):p.cells.length=v.cells.size/\(∀ q∈p.cells,q.kP=true)/\
  ∀(i:Nat) q u,p.cells[i]? =some q->v.cells[i]? =some u->RP w Im q u:=by by_cases hp:p.kP=true;(have ho:=h.dD hp;have e1:p.cells=[p]:=by cases p<;>first|rfl|cases hp);(have e2:v.cells= #[v]:=by cases v<;>first|rfl|cases ho);(rw[e1,e2];refine⟨rfl,by simpa using hp,fun i q u hq hu=>?_⟩;cases i with|zero=>simp at hq hu;subst hq hu;exact h|succ i=>simp at hq);cases h with|agg c vs hl hf h=>exact⟨by simpa[PV.cells,Value.cells]using hl,hf,fun i q u hq hu=>h i q u hq (by simpa[Value.cells]using hu)⟩|_=>exact absurd rfl hp
theorem W6{a:Act}{E:yp}(hE: ∀t,RA w H ι Im (E.get t) (a.tmps.getD t undef))(size:Nat): ∀(parts:List (Nat×Operand))(es:List (List PV))(cs:Array Value),
  cs.size=es.length*size->xR w Im size es (cs[·]?)->
  ∀{r:List (List PV)},rL size (ev E) parts es=some r-> ∃rs,Instr.fill (fun i=>some (i*size,size)) cs (parts.map fun(i,x)=>(i,a.eval x))=some rs/\
   r.length=es.length/\rs.size=es.length*size/\xR w Im size r (rs[·]?)
 |[],es,cs,hs,hc,r,h=>by simp only[rL,ki]at h;subst h;exact⟨cs,rfl,rfl,hs,hc⟩
 |(i,x)::rest,es,cs,hs,hc,r,h=>by
  simp only[rL]at h;split at h;rotate_left;cases h;rename_i p hp;split at h;rotate_left;cases h;(rename_i Nc;obtain⟨cp,dh⟩:=Nc;have hx:=Xg (QP hE x) hp;obtain⟨c1,c2,c3⟩:=PV.fe hx;have EL:(a.eval x).cells.size=size:=o?;have dK:i*size+size<=cs.size:=by rw[hs,<- B?];exact mulR _ dh);obtain⟨f1,f2⟩:=eA (i*size) (a.eval x).cells cs o?;have px: ∀(i' :Nat) e',(es.set i p.cells)[i']? =some e' ->(i' =i/\e' =p.cells)\/(i' ≠i/\es[i']? =some e'):=by intro i' e' h;rw[N!]at h;by_cases P6:i=i';subst P6;simp[dh]at h;exact .inl ⟨rfl,h.symm⟩;simp[P6]at h;exact .inr ⟨n_ P6,h⟩
  obtain⟨rs,g1,g2,g3,g4⟩:=W6 hE size rest (es.set i p.cells) _ (by rw[f1];simpa using hs) (by
   refine⟨fun e he=>?_,fun i' e' j q yw hj=>?_,fun i' e' j q yw hj=>?_⟩
   ·obtain⟨i',yw⟩:=kb he
    rcases px i' e yw with ⟨_,rfl⟩|⟨_,h⟩
    ·exact cp
    exact hc.1 e (z6 h)
   ·rcases px i' e' yw with ⟨_,rfl⟩|⟨_,h⟩
    ·exact c2 q (z6 hj)
    exact hc.2.1 i' e' j q h hj
   have Vr:j<size:=by
    have h1:=(qF hj).1
    rcases px i' e' yw with ⟨_,rfl⟩|⟨_,h⟩
    ·omega
    have:=hc.1 e' (z6 h)
    omega
   show ∃v,_/\_
   simp only[f2]
   rcases px i' e' yw with ⟨rfl,rfl⟩|⟨jz,h⟩
   ·rw[if_pos o?,show i' *size+j-i' *size=j from o?]
    obtain⟨u,hu⟩: ∃u,(a.eval x).cells[j]? =some u:=⟨(a.eval x).cells[j]'(o?),z?⟩
    exact⟨u,hu,c3 j q u hj hu⟩
   obtain⟨u,hu,hr⟩:=hc.2.2 i' e' j q h hj
   have lN: ¬(i*size<=i' *size+j/\i' *size+j<i*size+(a.eval x).cells.size):=by
    rcases z_ jz with xJ|P4
    ·have:(i' +1)*size<=i*size:=mulR _ xJ
     rw[B?]at this
     omega
    have:(i+1)*size<=i' *size:=mulR _ P4
    rw[B?]at this
    omega
   rw[if_neg lN]
   exact⟨u,hu,hr⟩) h
  (refine⟨rs, ?_,by simpa using g2,by simpa using g3,g4⟩;have Xx: ¬(decide ((a.eval x).cells.size≠size) || decide (i*size+(a.eval x).cells.size>cs.size))=true:=by simp only[z!,decide_eq_true_eq];omega);simp only[s?,Instr.fill];rw[if_neg Xx];exact g1
theorem Jn{a:Act}{E:yp}(hE: ∀t,RA w H ι Im (E.get t) (a.tmps.getD t undef))(size:Nat): ∀(parts:List (Nat×Operand))(es:List (List AV))(cs:Array Value),
  cs.size=es.length*size->mj w H ι Im size es (cs[·]?)->
  ∀{r:List (List AV)},pX size (ev E) parts es=some r-> ∃rs,Instr.fill (fun i=>some (i*size,size)) cs (parts.map fun(i,x)=>(i,a.eval x))=some rs/\
   r.length=es.length/\rs.size=es.length*size/\mj w H ι Im size r (rs[·]?)
 |[],es,cs,hs,hc,r,h=>by simp only[pX,ki]at h;subst h;exact⟨cs,rfl,rfl,hs,hc⟩
 |(i,x)::rest,es,cs,hs,hc,r,h=>by
  simp only[pX]at h;split at h;rotate_left;cases h;(rename_i Nc;obtain⟨lO,cp,dh⟩:=Nc;obtain⟨c1,c2,_,c3⟩:=AV.fe (QP hE x) lO;have EL:(a.eval x).cells.size=size:=o?;have dK:i*size+size<=cs.size:=by rw[hs,<- B?];exact mulR _ dh);obtain⟨f1,f2⟩:=eA (i*size) (a.eval x).cells cs o?;have px: ∀(i' :Nat) e',(es.set i (ev E x).cells)[i']? =some e' ->(i' =i/\e' =(ev E x).cells)\/(i' ≠i/\es[i']? =some e'):=by intro i' e' h;rw[N!]at h;by_cases P6:i=i';subst P6;simp[dh]at h;exact .inl ⟨rfl,h.symm⟩;simp[P6]at h;exact .inr ⟨n_ P6,h⟩
  obtain⟨rs,g1,g2,g3,g4⟩:=Jn hE size rest (es.set i (ev E x).cells) _ (by rw[f1];simpa using hs) (by
   refine⟨fun e he=>?_,fun i' e' j q yw hj=>?_,fun i' e' j q yw hj=>?_⟩
   ·obtain⟨i',yw⟩:=kb he
    rcases px i' e yw with ⟨_,rfl⟩|⟨_,h⟩
    ·exact cp
    exact hc.1 e (z6 h)
   ·rcases px i' e' yw with ⟨_,rfl⟩|⟨_,h⟩
    ·exact c2 q (z6 hj)
    exact hc.2.1 i' e' j q h hj
   have Vr:j<size:=by
    have h1:=(qF hj).1
    rcases px i' e' yw with ⟨_,rfl⟩|⟨_,h⟩
    ·omega
    have:=hc.1 e' (z6 h)
    omega
   show ∃v,_/\_
   simp only[f2]
   rcases px i' e' yw with ⟨rfl,rfl⟩|⟨jz,h⟩
   ·rw[if_pos o?,show i' *size+j-i' *size=j from o?]
    obtain⟨u,hu⟩: ∃u,(a.eval x).cells[j]? =some u:=⟨(a.eval x).cells[j]'(o?),z?⟩
    exact⟨u,hu,c3 j q u hj (by simpa using hu)⟩
   obtain⟨u,hu,hr⟩:=hc.2.2 i' e' j q h hj
   have lN: ¬(i*size<=i' *size+j/\i' *size+j<i*size+(a.eval x).cells.size):=by
    rcases z_ jz with xJ|P4
    ·have:(i' +1)*size<=i*size:=mulR _ xJ
     rw[B?]at this
     omega
    have:(i+1)*size<=i' *size:=mulR _ P4
    rw[B?]at this
    omega
   rw[if_neg lN]
   exact⟨u,hu,hr⟩) h
  (refine⟨rs, ?_,by simpa using g2,by simpa using g3,g4⟩;have Xx: ¬(decide ((a.eval x).cells.size≠size) || decide (i*size+(a.eval x).cells.size>cs.size))=true:=by simp only[z!,decide_eq_true_eq];omega);simp only[s?,Instr.fill];rw[if_neg Xx];exact g1
theorem GB{te:TI}{t:TypeId}(ht:zN P t te){z:Value}(h2:te.zero.length=z.cells.size)
  (h3: ∀(i:Nat) p v,te.zero[i]? =some p->z.cells.toList[i]? =some v->RP w Im p v) (len:Nat):
  xR w Im te.size (b? len te.zero) (((S! (len*te.size)).map (z.cells[· % z.cells.size]!))[·]?):=by
 refine⟨fun e he=>?_,fun i e j p hi hj=>?_,fun i e j p hi hj=>?_⟩;rw[List.eq_of_mem_replicate he,ht.len];rw[Q!]at hi;split at hi<;>cases hi;exact ht.kP p (z6 hj);rw[Q!]at hi;split at hi<;>cases hi;rename_i xJ;have SU:=(qF hj).1;have hl:=ht.len;have hb:i*te.size+j<len*te.size:=by have:(i+1)*te.size<=len*te.size:=mulR _ xJ;rw[B?]at this;omega
 have hm:(i*te.size+j) % z.cells.size=j:=by rw[<- h2,hl,X!,Nat.mul_add_mod];exact Nat.mod_eq_of_lt o?
 have hjz:j<z.cells.size:=o?;refine⟨z.cells[j], ?_,h3 j p _ hj (by simp[hjz])⟩;simp[hb,hm,hjz]
theorem KC{G:TypeId->Option TI}(hG: ∀t ti,G t=some ti->zN P t ti){t e:TypeId}{ti te:TI}(ht:zN P t ti)(jw:ti.td= .slice e)(dC:G e=some te)
  (hi:zc w H ι Im) {nx:Nat} {X:Nat->Prop} (xY:Bd X H nx) (hX: ¬X nx)
  {a:Act} {E:yp} (hE: ∀t,RA w H ι Im (E.get t) (a.tmps.getD t undef)) (len:Nat) (parts:Array (Nat×Operand)) (pZ:0<te.size) (hlen:len*te.size<=2^24)
  {es:List (List PV)} (hr:rL te.size (ev E) parts.toList (b? len te.zero)=some es):
  ∃u w',(Instr.buildSlice t len (parts.map fun(i,x)=>(i,a.eval x))).run P w= .ok u w' /\
   tD X w H ι Im nx (.row nx es.length 0 es.length,[(nx,.row false te.size es)],nx+1) u w' :=by
 have sH:=hG _ _ dC;obtain⟨z,h1,h2,h3,h4⟩:=Qx (w:=w) (Im:=Im) sH;have hzr:=GB (w:=w) (Im:=Im) sH h2 h3 len;obtain⟨rs,g1,g2,g3,g4⟩:=W6 hE te.size parts.toList _ _ z? hzr hr;have dm:es.length=len:=by simpa using g2
 have XR:(parts.map fun(i,x)=>(i,a.eval x)).toList=parts.toList.map fun(i,x)=>(i,a.eval x):=z?;refine⟨.slice (some ⟨w.heap.size,0,none⟩) es.length es.length, { w with heap:=w.heap.push (.cells rs e) }, ?_,Km hi xY hX te.size es rs e (0,0) es.length _ rfl ⟨rfl,rfl⟩ (kh _) pZ (by rw[g3,dm];simp) (jx _) g4⟩;unfold Instr.buildSlice;simp only[jT,qx (ht.slice jw),me,sH.size];rw[XR];have Xx: ¬(len*te.size>2^24):=o?;by_cases h0:len*te.size=0;simp only[h0]at g1 |-;have hz0:((S! 0).map fun x=>(#[]:Array Value)[x % (#[]:Array Value).size]!)=((S! 0).map (z.cells[· % z.cells.size]!)):=z?;simp only[q20,q1m,gt_iff_lt,if_false,K?,me,if_true,jT,hz0,g1,dm];simp[newRow];simp only[Xx,if_false,K?,me,h0,jT,h1,g1,dm];simp[newRow]
theorem zeroRowA{sz:Nat}{z:List PV}{len:Nat}{cs:Nat->Option Value}(h:xR w Im sz (b? len z) cs):mj w H ι Im sz (b? len (z.map AV.pv)) cs:=by
 have get: ∀(i:Nat) e,(b? len (z.map AV.pv))[i]? =some e->(b? len z)[i]? =some z/\e=z.map AV.pv:=by intro i e h;rw[Q!]at h |-;split at h<;>cases h;rename_i xJ;exact⟨if_pos xJ,rfl⟩
 refine⟨fun e he=>?_,fun i e j x hi hj=>?_,fun i e j x hi hj=>?_⟩;obtain⟨i,hi⟩:=kb he;obtain⟨h1,rfl⟩:=get i e hi;rw[s_];exact h.1 z (z6 h1);obtain⟨h1,rfl⟩:=get i e hi;rw[X?,yR]at hj;obtain⟨p,hp,rfl⟩:=hj;exact h.2.1 i z j p h1 hp;obtain⟨h1,rfl⟩:=get i e hi;rw[X?,yR]at hj;obtain⟨p,hp,rfl⟩:=hj;obtain⟨v,g1,g2⟩:=h.2.2 i z j p h1 hp;exact⟨v,g1,.pv _ _ g2⟩
theorem JN{G:TypeId->Option TI}(hG: ∀t ti,G t=some ti->zN P t ti){t e:TypeId}{ti te:TI}(ht:zN P t ti)(jw:ti.td= .slice e)(dC:G e=some te)
  (hi:zc w H ι Im) {nx:Nat} {X:Nat->Prop} (xY:Bd X H nx) (hX: ¬X nx)
  {a:Act} {E:yp} (hE: ∀t,RA w H ι Im (E.get t) (a.tmps.getD t undef)) (len:Nat) (parts:Array (Nat×Operand)) (pZ:0<te.size) (hlen:len*te.size<=2^24)
  {es:List (List AV)} (hr:pX te.size (ev E) parts.toList (b? len (te.zero.map .pv))=some es):
  ∃u w',(Instr.buildSlice t len (parts.map fun(i,x)=>(i,a.eval x))).run P w= .ok u w' /\
   tD X w H ι Im nx (.row nx es.length 0 es.length,[(nx,.mB te.size es)],nx+1) u w' :=by
 have sH:=hG _ _ dC;obtain⟨z,h1,h2,h3,h4⟩:=Qx (w:=w) (Im:=Im) sH;have hzr:=zeroRowA (H:=H) (ι:=ι) (GB (w:=w) (Im:=Im) sH h2 h3 len);obtain⟨rs,g1,g2,g3,g4⟩:=Jn hE te.size parts.toList _ _ z? hzr hr;have dm:es.length=len:=by simpa using g2
 have XR:(parts.map fun(i,x)=>(i,a.eval x)).toList=parts.toList.map fun(i,x)=>(i,a.eval x):=z?;refine⟨.slice (some ⟨w.heap.size,0,none⟩) es.length es.length, { w with heap:=w.heap.push (.cells rs e) }, ?_,q0D hi xY hX te.size es rs e (0,0) es.length _ rfl ⟨rfl,rfl⟩ (kh _) pZ (by rw[g3,dm];simp) (jx _) g4⟩;unfold Instr.buildSlice;simp only[jT,qx (ht.slice jw),me,sH.size];rw[XR];have Xx: ¬(len*te.size>2^24):=o?;by_cases h0:len*te.size=0;simp only[h0]at g1 |-;have hz0:((S! 0).map fun x=>(#[]:Array Value)[x % (#[]:Array Value).size]!)=((S! 0).map (z.cells[· % z.cells.size]!)):=z?;simp only[q20,q1m,gt_iff_lt,if_false,K?,me,if_true,jT,hz0,g1,dm];simp[newRow];simp only[Xx,if_false,K?,me,h0,jT,h1,g1,dm];simp[newRow]
theorem VJ{G:TypeId->Option TI}(hG: ∀t ti,G t=some ti->zN P t ti){t:TypeId}{ti:TI}(ht:zN P t ti)
  (hi:zc w H ι Im) {nx:Nat} {X:Nat->Prop} (xY:Bd X H nx) (hX: ∀γ,X γ->nx+1<=γ)
  {l c:AV} {vl vc:Value} (hl:RA w H ι Im l vl) (hc:RA w H ι Im c vc) {e:mC} (hr:sC ti.td G l c nx=some e):
  ∃u w',(Instr.makeSlice t vl vc).run P w= .ok u w' /\tD X w H ι Im nx e u w' :=by
 unfold sC at hr;split at hr;rotate_left;cases hr;rename_i el jw;split at hr;rotate_left;cases hr;rename_i te n n' dC hln hcn;split at hr<;>cases hr;rename_i hh;obtain⟨rfl,pZ,gY⟩:=hh;have q0x: ∀{x:AV}{v:Value}{m:Nat},RA w H ι Im x v->vM x=some m-> ∃k,v= .int k (m:Int):=by intro x v m hx hm;unfold vM at hm;split at hm;(rename_i k z;split at hm<;>cases hm;rename_i h0;cases hx with|pv _ _ h=>cases h;exact⟨k,by rw[q07 h0]⟩);cases hm
 obtain⟨k1,rfl⟩:=q0x hl hln;obtain⟨k2,rfl⟩:=q0x hc hcn;have sH:=hG _ _ dC;obtain⟨i,z0,q1,q2,q3,q4,q5,q6⟩:=sH.info;obtain⟨z,h1,h2,h3,h4⟩:=Qx (w:=w) (Im:=Im) sH;have hzr:=GB (w:=w) (Im:=Im) sH h2 h3 n';simp only[qg,zO,decide_eq_true_eq]at gY;obtain⟨⟨r1,r2⟩,r3⟩:=gY;have hw0:q?.wrap (n' :Int)=(n' :Int):=IntWalk.i64_in _ ⟨o?,o?⟩;have hb:i.bytes*n' <=2^46:=by rw[q3,X!];exact r1
 have Xx: ¬(((i.bytes:Int)*(n' :Int))>2^48):=by have:((i.bytes*n' :Nat):Int)<=2^46:=o?;rw[Int.natCast_mul]at this;omega
 refine⟨.slice (some ⟨w.heap.size,0,none⟩) (b? n' te.zero).length n', { w with heap:=w.heap.push (.cells ((S! (n' *te.size)).map (z.cells[· % z.cells.size]!)) el) }, ?_,Km hi xY (aT hX) te.size _ _ el (0,0) n' _ rfl ⟨rfl,rfl⟩ (kh _) pZ z? z? hzr⟩;unfold Instr.makeSlice;have hneg: ¬((n' :Int)<0):=o?;simp only[jT,qx (ht.slice jw),me,asInt,asIntOf,K?,gV q1,hw0];have P4: ¬((n' :Int)>(n' :Int)):=o?;simp only[hneg,Xx,P4,decide_false,Bool.or_self,ko,if_false,Int.toNat_natCast,run_askRoom,me,sH.size,jT];by_cases h0:n' *te.size=0;have hz0:((S! 0).map fun x=>(#[]:Array Value)[x % (#[]:Array Value).size]!)=((S! 0).map (z.cells[· % z.cells.size]!)):=z?;simp only[h0,if_true,K?,me,hz0,newRow,jT,run_newObj,U'];simp only[h0,if_false,jT,h1,K?,me,newRow,run_newObj,U']
end
section
variable [xg] {P:Program} {w:World} {H:qr} {ι:yq} {Im:Nat->Prop}
theorem wR.bP{w' :World}(h:w'.heap=w.heap)(Ll:w'.os=w.os/\w'.output=w.output):wR w H ι Im w' H ι Im where
 comp:=fun β b h=>⟨b,h,uU b _⟩
 im:=fun _ h=>h
 ta:=fun _ h=> .inl h
 nT:=fun β x z h hu=> .inr ⟨β,x,h,hu⟩
 kD:=fun _ _ _=>by rw[h]
 size:=by rw[h];exact jx _
 io:=Ll
theorem zc.bP{w' :World}(h:w'.heap=w.heap)(Ll:w'.os=w.os/\w'.output=w.output)(hi:zc w H ι Im):zc w' H ι Im where
 rB:=fun β b hb=>(hi.rB β b hb).mono hi (wR.bP h Ll) (fun _=>⟨rfl,fun _ _=>by rw[h]⟩)
 inj:=hi.inj
 im:=fun b hb=>by rw[h];exact hi.im b hb
 Vt:=hi.Vt
 Na:=xg.go hi.Na hi.VP fun b _=>by rw[h]
 VP:=hi.VP
theorem RA.bP{w' :World}(h:w'.heap=w.heap)(Ll:w'.os=w.os/\w'.output=w.output)(hi:zc w H ι Im){x:AV}{v:Value}(hx:RA w H ι Im x v):RA w' H ι Im x v:=hx.mono hi (wR.bP h Ll)
theorem tV(hi:zc w H ι Im){x:AV}{v:Value}(hx:RA w H ι Im x v){rD:Nat}{src:List (List PV)}(h:yI x H=some (rD,src)):
  (Builtin.lenOf v).run P w= .ok src.length w/\
  ∀size,(rD=size\/src=[])-> ∃cs,(Builtin.firstCells size src.length v).run P w= .ok cs w/\cs.size=src.length*size/\xR w Im size src (cs[·]?):=by
 have empty: ∀(v:Value),(∃ a c,v= .slice (some a) 0 c)\/(∃ c,v= .slice none 0 c)->(Builtin.lenOf v).run P w= .ok ([]:List (List PV)).length w/\
   ∀size,∃ cs,(Builtin.firstCells size ([]:List (List PV)).length v).run P w= .ok cs w/\cs.size=([]:List (List PV)).length*size/\xR w Im size [] (cs[·]?):=by
  intro v hv;rcases hv with ⟨a,c,rfl⟩|⟨c,rfl⟩
  ·refine⟨by simp[Builtin.lenOf],fun size=>⟨#[], ?_,z?,by simp[xR]⟩⟩;simp[Builtin.firstCells,loadCells,loadCellsFrom]
  exact⟨by simp[Builtin.lenOf],fun size=>⟨#[],by simp[Builtin.firstCells],z?,by simp[xR]⟩⟩
 unfold yI at h;split at h
 ·rename_i qu sz es;cases h;cases hx with
  |pv _ _ h=>cases h with
   |aS sz=>
    obtain⟨e1,e2⟩:=empty (.slice none 0 0) (.inr ⟨_,rfl⟩);exact⟨e1,fun size _=>e2 size⟩
   |sl _ _ b off cap vs QF JX mr hc hf h sp C2=>
    refine⟨by simp[Builtin.lenOf],fun size hs=>?_⟩;by_cases dm:src=[]
    ·subst dm;exact(empty _ (.inl ⟨_,_,rfl⟩)).2 size
    obtain rfl:=C2 dm;rcases hs with rfl|rfl
    ·refine⟨((E? (src.length*rD)).map vs).toArray, ?_,z?,mr,hf,fun i e j p yw hj=>?_⟩
     ·simp only[Builtin.firstCells];exact run_loadCells b off _ vs hc
     have xJ:=(qF yw).1;have SU:=(qF hj).1;have he:=mr e (z6 yw);have:(i+1)*rD<=src.length*rD:=mulR _ xJ;rw[B?]at this;refine⟨vs (i*rD+j), ?_,h i e j p yw hj⟩;simp only[I?,X?];rw[o_ o?];rfl
    exact absurd rfl dm
 (cases h;cases hx with|o5 a=>obtain⟨e1,e2⟩:=empty (.slice (some a) 0 0) (.inl ⟨_,_,rfl⟩);exact⟨e1,fun size _=>e2 size⟩);{rename_i β xf off n;split at h;rotate_left;cases h;rename_i qu sz es hb;split at h<;>cases h;rename_i jA;cases hx with|row _ _ _ _ _ b ho js hk hv hh=>rw[hb]at js;cases js;obtain⟨h1,h2⟩:=hh _ _ _ rfl jA;have hln:((es.drop off).take n).length=n:=v?;cases hn:qu;rw[hn]at h2 hb;simp only[ko,if_false]at h2;obtain⟨a,rfl,oP,eU,Qm⟩:=h2;obtain⟨ab,ao,DT⟩:=a;simp only at oP eU Qm;subst oP eU;refine⟨by rw[hln];simp[Builtin.lenOf],fun size hs=>?_⟩;by_cases GJ:n=0;subst GJ;have:(es.drop off).take 0=[]:=z?;rw[this];exact(empty _ (.inl ⟨_,_,rfl⟩)).2 size;(obtain⟨vs,elem,fz,g1,g2,g3,g4,g5,g6,g7,g8⟩:=hi.row hb;have Lc:=Qm o?;subst Lc;have oQ:rD=size:=by rcases hs with h|h;exact h;rw[h]at hln;simp at hln;omega);(subst oQ;have pY: ∀(i:Nat) e,((es.drop off).take n)[i]? =some e->i<n/\es[off+i]? =some e:=by intro i e VS;have:=(qF VS).1;have dK:i<n:=o?;rw[V? dK,v!]at VS;exact⟨dK,VS⟩);(have hmul:off*rD+n*rD<=es.length*rD:=by rw[<- T?];exact mulR _ h1);have hmul2:es.length*rD<=(ι β).cap*rD:=mulR _ g5;rw[hln];refine⟨((E? (n*rD)).map fun j=>(vs[off*rD+j]?).getD undef).toArray, ?_,z?,fun e he=>?_,fun i e j p VS hj=>?_,fun i e j p VS hj=>?_⟩;simp only[Builtin.firstCells];refine run_loadCells _ _ _ _ fun j hj=>?_;rw[gA g1];have:off*rD+j<vs.size:=o?;simp[this];exact g6 e (x! (W? he));exact g7 _ e j p (pY i e VS).2 hj;(obtain⟨dK,Lk⟩:=pY i e VS;obtain⟨v,k1,k2⟩:=g8 _ e j p Lk hj;have SU:=(qF hj).1;have he:=g6 e (z6 Lk);have:(i+1)*rD<=n*rD:=mulR _ dK;rw[B?]at this;refine⟨v, ?_,k2⟩;have e1:off*rD+(i*rD+j)=(off+i)*rD+j:=by rw[T?];omega);simp only[I?,X?];rw[o_ o?];simp only[F!,e1,k1,c!];rw[hn]at h2 hb;have dm:es=[]:=hi.rB β _ hb;subst dm;simp only[if_true]at h2;subst h2;have:(([]:List (List PV)).drop off).take n=[]:=z?;rw[this];obtain⟨e1,e2⟩:=empty (.slice none 0 0) (.inr ⟨_,rfl⟩);exact⟨e1,fun size _=>e2 size⟩}
 ·rename_i s;cases h;cases hx with
  |pv _ _ h=>cases h with
   |str l=>
    refine⟨by simp[Builtin.lenOf,ByteArray.size],fun size hs=>?_⟩;refine⟨(s.map fun b=>Value.int .u8 b.toNat).toArray, ?_, ?_, ?_⟩
    ·simp only[Builtin.firstCells,s_];have:(ByteArray.mk ⟨s⟩).extract 0 s.length=⟨⟨s⟩⟩:=by
      apply ByteArray.ext;simp
     rw[this];simp
    ·rcases hs with rfl|h
     ·simp
     have:s=[]:=by simpa using h
     subst this;simp
    rcases hs with rfl|h
    ·refine⟨fun e he=>?_,fun i e j p yw hj=>?_,fun i e j p yw hj=>?_⟩
     ·simp only[N?]at he;obtain⟨b,_,rfl⟩:=he;rfl
     ·simp only[X?,yR]at yw;obtain⟨b,_,rfl⟩:=yw;cases j with
      |zero=>simp at hj;subst hj;rfl
      |succ j=>simp at hj
     simp only[X?,yR]at yw;obtain⟨b,hb,rfl⟩:=yw;cases j with
     |zero=>
      simp at hj;subst hj;exact⟨.int .u8 b.toNat,by simp[hb],.int _ _⟩
     |succ j=>simp at hj
    have:s=[]:=by simpa using h
    subst this;simp[xR]
 cases h
end
section
variable [xg] {P:Program} {w:World} {H:qr} {ι:yq} {Im:Nat->Prop}
theorem YB(J2:Nat): ∀(r c:Nat),c<=J2+(J2+768) / 4->Builtin.growBy J2 r c<=J2+(J2+768) / 4
 |0,c,h=>h
 |r+1,c,h=>by simp only[Builtin.growBy];split;exact h;exact YB J2 r _ o?
theorem nextslicecap_le{zx cap:Nat}(h:cap<zx):Builtin.nextslicecap zx cap<=2*zx+192:=by unfold Builtin.nextslicecap;split;omega;split;omega;have:=YB zx 4 cap o?;omega
theorem Mt{zx bytes:Nat}(h:qg zx bytes=true){cap:Nat}(hc:cap<zx):
  Builtin.nextslicecap zx cap*bytes<=2^48/\(zx:Int)<=q?.max:=by
 unfold qg at h;simp only[zO,decide_eq_true_eq]at h;obtain⟨⟨h1,h2⟩,h3⟩:=h;refine⟨?_, ?_⟩
 ·have:=nextslicecap_le hc
  calc Builtin.nextslicecap zx cap*bytes<=(2*zx+192)*bytes:=mulR _ this
   _=2*(zx*bytes)+192*bytes:=by rw[T?,Nat.mul_assoc]
   _<=2^48:=o?
 have:q?.max=9223372036854775807:=by decide
 rw[this];omega
theorem xR.append{sz:Nat}{Za es2:List (List PV)}{F9 Fa rest:Array Value}(h1:xR w Im sz Za (F9[·]?))(h2:xR w Im sz es2 (Fa[·]?))
  (hl:F9.size=Za.length*sz):xR w Im sz (Za++es2) ((F9++Fa++rest)[·]?):=by
 have Hk: ∀(i:Nat) e(j:Nat) p,Za[i]? =some e->e[j]? =some p->i*sz+j<F9.size:=by intro i e j p hi hj;have xJ:=(qF hi).1;have SU:=(qF hj).1;have he:=h1.1 e (z6 hi);have:(i+1)*sz<=Za.length*sz:=mulR _ xJ;rw[B?]at this;omega
 have split: ∀(i:Nat) e,(Za++es2)[i]? =some e->(Za[i]? =some e)\/(Za.length<=i/\es2[i-Za.length]? =some e):=by intro i e h;rw[M!]at h;split at h;exact .inl h;exact .inr ⟨o?,h⟩
 refine⟨fun e he=>?_,fun i e j p hi hj=>?_,fun i e j p hi hj=>?_⟩;rcases m?.1 he with h|h;exact h1.1 e h;exact h2.1 e h;rcases split i e hi with h|⟨_,h⟩;exact h1.2.1 i e j p h hj;exact h2.2.1 _ e j p h hj;rcases split i e hi with h|⟨hle,h⟩;obtain⟨v,g1,g2⟩:=h1.2.2 i e j p h hj;refine⟨v, ?_,g2⟩;have:=Hk i e j p h hj;simp only[F'];rw[G! this];exact g1;obtain⟨v,g1,g2⟩:=h2.2.2 _ e j p h hj;refine⟨v, ?_,g2⟩;have e1:i*sz+j=F9.size+((i-Za.length)*sz+j):=by rw[hl];have:i=Za.length+(i-Za.length):=o?;(conv=>lhs;rw[this,T?]);omega
 have xJ:(i-Za.length)*sz+j<Fa.size:=by rcases V' ((i-Za.length)*sz+j) Fa.size with h|h;exact h;have:Fa[(i-Za.length)*sz+j]? =none:=y_ h;simp only[this]at g1;cases g1
 show(F9++Fa++rest)[i*sz+j]? =some v;rw[e1,G! v?,P_ o?];simpa using g1
theorem mj.append{sz:Nat}{Za es2:List (List AV)}{F9 Fa rest:Array Value}(h1:mj w H ι Im sz Za (F9[·]?))(h2:mj w H ι Im sz es2 (Fa[·]?))
  (hl:F9.size=Za.length*sz):mj w H ι Im sz (Za++es2) ((F9++Fa++rest)[·]?):=by
 have Hk: ∀(i:Nat) e(j:Nat) p,Za[i]? =some e->e[j]? =some p->i*sz+j<F9.size:=by intro i e j p hi hj;have xJ:=(qF hi).1;have SU:=(qF hj).1;have he:=h1.1 e (z6 hi);have:(i+1)*sz<=Za.length*sz:=mulR _ xJ;rw[B?]at this;omega
 have split: ∀(i:Nat) e,(Za++es2)[i]? =some e->(Za[i]? =some e)\/(Za.length<=i/\es2[i-Za.length]? =some e):=by intro i e h;rw[M!]at h;split at h;exact .inl h;exact .inr ⟨o?,h⟩
 refine⟨fun e he=>?_,fun i e j p hi hj=>?_,fun i e j p hi hj=>?_⟩;rcases m?.1 he with h|h;exact h1.1 e h;exact h2.1 e h;rcases split i e hi with h|⟨_,h⟩;exact h1.2.1 i e j p h hj;exact h2.2.1 _ e j p h hj;rcases split i e hi with h|⟨hle,h⟩;obtain⟨v,g1,g2⟩:=h1.2.2 i e j p h hj;refine⟨v, ?_,g2⟩;have:=Hk i e j p h hj;simp only[F'];rw[G! this];exact g1;obtain⟨v,g1,g2⟩:=h2.2.2 _ e j p h hj;refine⟨v, ?_,g2⟩;have e1:i*sz+j=F9.size+((i-Za.length)*sz+j):=by rw[hl];have:i=Za.length+(i-Za.length):=o?;(conv=>lhs;rw[this,T?]);omega
 have xJ:(i-Za.length)*sz+j<Fa.size:=by rcases V' ((i-Za.length)*sz+j) Fa.size with h|h;exact h;have:Fa[(i-Za.length)*sz+j]? =none:=y_ h;simp only[this]at g1;cases g1
 show(F9++Fa++rest)[i*sz+j]? =some v;rw[e1,G! v?,P_ o?];simpa using g1
def vn(w:World):World:={ w with drawn:=w.drawn+1 }
theorem pA{ts tx e:TypeId}{ti te oN:TI}(Kh:zN P ts ti)(jw:ti.td= .slice e)(dC:zN P e te)(Ju:zN P tx oN)
  (X1:(∃ e',oN.td= .slice e')\/oN.td= .string) (tt:TypeId) (base:Option Addr) (n cap k:Nat) (v:Value)
  (hlen:(Builtin.lenOf v).run P w= .ok k w) (P4:cap<n+k) (gY:qg (n+k) te.bytes=true)
  (NW new:Array Value)
  (ho:(Builtin.firstCells te.size n (.slice base n cap)).run P (vn w)= .ok NW (vn w))
  (hn:(Builtin.firstCells te.size k v).run P (vn w)= .ok new (vn w)):
  ∃(fg:Nat)(rest:Array Value),n+k<=fg/\rest.size=(fg-(n+k))*te.size/\
   (Builtin.append_ #[ts,tx] tt #[.slice base n cap,v]).run P w=
    .ok (.slice (some ⟨w.heap.size,0,none⟩) (n+k) fg) { vn w with heap:=w.heap.push (.cells (NW++new++rest) e) }:=by
 obtain⟨i,z,q1,q2,q3,q4,q5,q6⟩:=dC.info;obtain⟨r1,r2⟩:=Mt gY P4;have hzl:z.cells.size=te.size:=by have:=(Xi (w:=w) (Im:=fun _=>True) q5).1;have:=dC.len;simp at*;omega
 let nc:Nat:=Question.cut (.appendCap (n+k) cap e) (w.tape w.drawn (.appendCap (n+k) cap e));have hnc:n+k<=nc:=by simp[nc,Question.cut]
 refine⟨nc,Builtin.zeroCells z.cells (nc-(n+k)),hnc,by simp[Builtin.zeroCells,hzl], ?_⟩;have hzero:(zeroValue e).run P (vn w)= .ok z (vn w):=by simp[zeroValue,gV q1,q4]
 have hno1: ¬(n+k<=cap):=o?;have hno3: ¬(Builtin.nextslicecap (n+k) cap*te.bytes>2^48):=o?;have hno2: ¬(((n+k:Nat):Int)>q?.max):=o?;have htxx:P.underlying tx=some .string\/ ∃e',P.underlying tx=some (.slice e'):=by rcases X1 with ⟨e',h⟩|h;exact .inr ⟨_,Ju.slice h⟩;exact .inl (Ju.string h)
 have VQ:(choose (Question.appendCap (n+k) cap e)).run P w= .ok nc (vn w):=by simp[choose,M_,Question.forced,nc,vn]
 have lh: ∀w',(typeInfo e).run P w' = .ok i w' :=fun w' =>gV q1;rw[<- q3]at hno3;unfold Builtin.append_;rcases htxx with hd|⟨e',hd⟩;all_goals
  simp only[I?,c?,i?,jT,qx (Kh.slice jw),me,dC.size,qx hd,K?,hlen,
   ko,if_false,hno1,lh,hno2,false_and,hno3,VQ,run_askRoom,ho,q1n,if_true,hn,hzero,newRow,run_newObj]
  rfl
theorem run_append_fits{ts tx e:TypeId}{ti te oN:TI}(Kh:zN P ts ti)(jw:ti.td= .slice e)(dC:zN P e te)(Ju:zN P tx oN)
  (X1:(∃ e',oN.td= .slice e')\/oN.td= .string) (tt:TypeId) (base:Option Addr) (n cap k:Nat) (v:Value)
  (hlen:(Builtin.lenOf v).run P w= .ok k w) (hle:n+k<=cap) (new:Array Value) (hnew:(Builtin.firstCells te.size k v).run P w= .ok new w) (w' :World)
  (lO: ∀a,base=some a->(storeCells (a.add (n*te.size)) new.toList).run P w= .ok () w') (YE:base=none->w' =w):
  (Builtin.append_ #[ts,tx] tt #[.slice base n cap,v]).run P w= .ok (.slice base (n+k) cap) w' :=by
 have htxx:P.underlying tx=some .string\/ ∃e',P.underlying tx=some (.slice e'):=by rcases X1 with ⟨e',h⟩|h;exact .inr ⟨_,Ju.slice h⟩;exact .inl (Ju.string h)
 unfold Builtin.append_;rcases htxx with hd|⟨e',hd⟩;all_goals
  simp only[I?,c?,i?,jT,qx (Kh.slice jw),me,dC.size,qx hd,K?,hlen,
   ko,if_false,hle,q1n,if_true,hnew]
  cases base with
  |none=>rw[YE rfl];rfl
  |some a=>simp only[jT,lO a rfl,me,K?]
theorem Jq{ts tx e:TypeId}{ti te oN:TI}(Kh:zN P ts ti)(jw:ti.td= .slice e)(dC:zN P e te)(Ju:zN P tx oN)
  (X1:(∃ e',oN.td= .slice e')\/oN.td= .string) (tt:TypeId) (hi:zc w H ι Im) {y:AV} {vy:Value} (hy:RA w H ι Im y vy)
  {rD:Nat} {src:List (List PV)} (rP:yI y H=some (rD,src)) (mr:rD=te.size\/src=[]) (jz:src≠[]) (gY:qg src.length te.bytes=true)
  (base:Option Addr):
  ∃(fg:Nat)(w' :World)(cs:Array Value),src.length<=fg/\(w'.heap=w.heap.push (.cells cs e)/\w'.os=w.os/\w'.output=w.output)/\cs.size=fg*te.size/\xR w Im te.size src (cs[·]?)/\
   (Builtin.append_ #[ts,tx] tt #[.slice base 0 0,vy]).run P w= .ok (.slice (some ⟨w.heap.size,0,none⟩) src.length fg) w' :=by
 obtain⟨l1,l2⟩:=tV (P:=P) hi hy rP;have pZ:0<src.length:=q!.2 jz;have hw:(vn w).heap=w.heap:=rfl;obtain⟨new,k1,k2,k3⟩:=(tV (P:=P) (hi.bP hw ⟨rfl,rfl⟩) (hy.bP hw ⟨rfl,rfl⟩ hi) rP).2 te.size mr;obtain⟨nc,rest,g1,g3,g4⟩:=pA (w:=w) Kh jw dC Ju X1 tt base 0 0 src.length vy l1 o? (by simpa using gY) #[] new
  (by
   cases base with
   |none=>simp[Builtin.firstCells]
   |some a=>simp[Builtin.firstCells,loadCells,loadCellsFrom]) k1
 have K0:xR (vn w) Im te.size [] (((#[]:Array Value))[·]?):=by simp[xR]
 have eB:=xR.append (rest:=rest) K0 k3 z?;refine⟨nc, { vn w with heap:=w.heap.push (.cells (new++rest) e) },_,o?,⟨rfl,rfl,rfl⟩, ?_, ?_,by simpa using g4⟩;simp only[J_,k2,g3];simp only[P?,q15];rw[<- T?];congr 1;omega;have:=eB.mono (w' :=w) (jV:=Im) (fun _ h=>h) (fun b _=>by rw[hw]);simpa using this
theorem take_all{α:Type}(es src:List α){n:Nat}(h:n=es.length):es.take n++src++es.drop (n+src.length)=es++src:=by subst h;simp[g_]
theorem Qt(hi:zc w H ι Im){x:AV}{v:Value}(hx:RA w H ι Im x v){rD:Nat}{src:List (List AV)}(h:Q4 x H=some (rD,src)):
  (Builtin.lenOf v).run P w= .ok src.length w/\
  ∃cs,(Builtin.firstCells rD src.length v).run P w= .ok cs w/\cs.size=src.length*rD/\mj w H ι Im rD src (cs[·]?):=by unfold Q4 at h;split at h;rotate_left;cases h;rename_i β xf off n;split at h;rotate_left;cases h;rename_i sz es hb;split at h<;>cases h;rename_i jA;cases hx with|row _ _ _ _ _ b ho js hk hv hh=>rw[hb]at js;cases js;obtain⟨h1,h2⟩:=hh _ _ _ rfl jA;have hln:((es.drop off).take n).length=n:=v?;simp only[ko,if_false]at h2;obtain⟨a,rfl,oP,eU,Qm⟩:=h2;obtain⟨ab,ao,DT⟩:=a;simp only at oP eU Qm;subst oP eU;refine⟨by rw[hln];simp[Builtin.lenOf], ?_⟩;by_cases GJ:n=0;subst GJ;refine⟨#[], ?_,z?,by simp[mj]⟩;simp[Builtin.firstCells,loadCells,loadCellsFrom];(obtain⟨vs,elem,fz,g1,g2,g3,g4,g5,g6,g7,g8⟩:=hi.mB hb;have Lc:=Qm o?;subst Lc;have pY: ∀(i:Nat) e,((es.drop off).take n)[i]? =some e->i<n/\es[off+i]? =some e:=by intro i e VS;have:=(qF VS).1;have dK:i<n:=o?;rw[V? dK,v!]at VS;exact⟨dK,VS⟩);(have hmul:off*rD+n*rD<=es.length*rD:=by rw[<- T?];exact mulR _ h1);have hmul2:es.length*rD<=(ι β).cap*rD:=mulR _ g5;rw[hln];refine⟨((E? (n*rD)).map fun j=>(vs[off*rD+j]?).getD undef).toArray, ?_,z?,fun e he=>?_,fun i e j p VS hj=>?_,fun i e j p VS hj=>?_⟩;simp only[Builtin.firstCells];refine run_loadCells _ _ _ _ fun j hj=>?_;rw[gA g1];have:off*rD+j<vs.size:=o?;simp[this];exact g6 e (x! (W? he));exact g7 _ e j p (pY i e VS).2 hj;(obtain⟨dK,Lk⟩:=pY i e VS;obtain⟨v,k1,k2⟩:=g8 _ e j p Lk hj;have SU:=(qF hj).1;have he:=g6 e (z6 Lk);have:(i+1)*rD<=n*rD:=mulR _ dK;rw[B?]at this;refine⟨v, ?_,k2⟩;have e1:off*rD+(i*rD+j)=(off+i)*rD+j:=by rw[T?];omega);simp only[I?,X?];rw[o_ o?];simp only[F!,e1,k1,c!]
theorem Hg{ts tx e:TypeId}{ti te oN:TI}(Kh:zN P ts ti)(jw:ti.td= .slice e)(dC:zN P e te)(Ju:zN P tx oN)
  (X1:(∃ e',oN.td= .slice e')\/oN.td= .string) (tt:TypeId) (hi:zc w H ι Im) {y:AV} {vy:Value} (hy:RA w H ι Im y vy)
  {src:List (List AV)} (rP:Q4 y H=some (te.size,src)) (jz:src≠[]) (gY:qg src.length te.bytes=true):
  ∃(fg:Nat)(w' :World)(cs:Array Value),src.length<=fg/\(w'.heap=w.heap.push (.cells cs e)/\w'.os=w.os/\w'.output=w.output)/\cs.size=fg*te.size/\mj w H ι Im te.size src (cs[·]?)/\
   (Builtin.append_ #[ts,tx] tt #[.slice none 0 0,vy]).run P w= .ok (.slice (some ⟨w.heap.size,0,none⟩) src.length fg) w' :=by
 obtain⟨l1,l2⟩:=Qt (P:=P) hi hy rP;have pZ:0<src.length:=q!.2 jz;have hw:(vn w).heap=w.heap:=rfl;have yw:=hi.bP hw ⟨rfl,rfl⟩;obtain⟨new,k1,k2,k3⟩:=(Qt (P:=P) yw (hy.bP hw ⟨rfl,rfl⟩ hi) rP).2;obtain⟨nc,rest,g1,g3,g4⟩:=pA (w:=w) Kh jw dC Ju X1 tt none 0 0 src.length vy l1 o? (by simpa using gY) #[] new (by simp[Builtin.firstCells]) k1;have K0:mj (vn w) H ι Im te.size [] (((#[]:Array Value))[·]?):=by simp[mj]
 have eB:=mj.append (rest:=rest) K0 k3 z?;refine⟨nc, { vn w with heap:=w.heap.push (.cells (new++rest) e) },_,o?,⟨rfl,rfl,rfl⟩, ?_, ?_,by simpa using g4⟩;simp only[J_,k2,g3];simp only[P?,q15];rw[<- T?];congr 1;omega;have:=eB.mono (w' :=w) (H' :=H) (ι' :=ι) (jV:=Im) yw (wR.bP (w:=vn w) (w' :=w) rfl ⟨rfl,rfl⟩);simpa using this
theorem Bf{ts tx e:TypeId}{ti te oN:TI}(Kh:zN P ts ti)(jw:ti.td= .slice e)(dC:zN P e te)(Ju:zN P tx oN)
  (X1:(∃ e',oN.td= .slice e')\/oN.td= .string) (tt:TypeId) (hi:zc w H ι Im) {nx:Nat} {X:Nat->Prop} (xY:Bd X H nx)
  {x y:AV} {vx vy:Value} (hx:RA w H ι Im x vx) (hy:RA w H ι Im y vy) {r:mC} (hr:mH te x y H nx=some r) (hX: ∀γ,X γ->r.2.2<=γ):
  ∃u w',(Builtin.append_ #[ts,tx] tt #[vx,vy]).run P w= .ok u w' /\tD X w H ι Im nx r u w' :=by unfold mH at hr;cases hr
theorem PH{ts tx e:TypeId}{ti te oN:TI}(Kh:zN P ts ti)(jw:ti.td= .slice e)(dC:zN P e te)(Ju:zN P tx oN)
  (X1:(∃ e',oN.td= .slice e')\/oN.td= .string) (tt:TypeId) (hi:zc w H ι Im) {nx:Nat} {X:Nat->Prop} (xY:Bd X H nx)
  {x y:AV} {vx vy:Value} (hx:RA w H ι Im x vx) (hy:RA w H ι Im y vy) {r:mC} (hr:uT te x y H nx=some r) (hX: ∀γ,X γ->r.2.2<=γ):
  ∃u w',(Builtin.append_ #[ts,tx] tt #[vx,vy]).run P w= .ok u w' /\tD X w H ι Im nx r u w' :=by
 unfold uT at hr;split at hr
 ·exact Bf Kh jw dC Ju X1 tt hi xY hx hy hr hX
 rename_i rD src rP;split at hr;rotate_left
 ·cases hr
 rename_i hc;obtain⟨mr,pZ⟩:=hc;obtain⟨l1,l2⟩:=tV (P:=P) hi hy rP;obtain⟨cs,f1,f2,f3⟩:=l2 te.size mr;have none0: ∀(base:Option Addr),RA w H ι Im x (.slice base 0 0)->src=[]->
   ∃u w',(Builtin.append_ #[ts,tx] tt #[.slice base 0 0,vy]).run P w= .ok u w' /\tD X w H ι Im nx (x,[],nx) u w' :=by
  intro base hxv hs;subst hs;refine⟨_,w,run_append_fits Kh jw dC Ju X1 tt base 0 0 0 vy l1 (jx _) cs f1 w (fun a ha=>?_) (fun _=>rfl),tD.pure hi xY hxv⟩;have:cs.toList=[]:=by
   have:cs.size=0:=by simpa using f2
   simpa using this
  rw[this];rfl
 have fresh: ∀(base:Option Addr),RA w H ι Im x (.slice base 0 0)->
   jX te x src nx nx (nx+1)=some r->
   ∃u w',(Builtin.append_ #[ts,tx] tt #[.slice base 0 0,vy]).run P w= .ok u w' /\tD X w H ι Im nx r u w' :=by
  intro base hxv hr;unfold jX at hr;split at hr
  ·cases hr;exact none0 base hxv rfl
  split at hr<;>cases hr;rename_i gY;obtain⟨nc,w',cs',g1,g2,g3,g4,g5⟩:=Jq Kh jw dC Ju X1 tt hi hy rP mr z? gY base;exact⟨_,w',g5,Km hi xY (aT hX) te.size _ cs' e (0,0) nc w' g2.1 g2.2 (kh _) pZ g3 g1 g4⟩
 split at hr
 ·cases hx with
  |pv _ _ h=>cases h with
   |aS=>exact fresh none (.pv _ _ (.aS _)) hr
 ·cases hx with
  |o5 a=>exact fresh _ (.o5 a) hr
 ·rename_i β xf off n;split at hr
  ·rename_i sz es hb;split at hr;rotate_left
   ·cases hr
   rename_i hc;obtain⟨jA,l7,hn⟩:=hc;subst l7 hn;have hxx:=hx;cases hx with
   |row _ _ _ _ _ b ho js hk hv hh=>
   rw[hb]at js;cases js;obtain⟨h1,h2⟩:=hh _ _ _ rfl jA;simp only[if_true]at h2;subst h2;have dm:es=[]:=hi.rB β _ hb;subst dm;unfold jX at hr;split at hr
   ·cases hr;exact none0 none hxx rfl
   rename_i a0 l0;split at hr<;>cases hr;rename_i gY;obtain⟨nc,w',cs',g1,g2,g3,g4,g5⟩:=Jq Kh jw dC Ju X1 tt hi hy rP mr z? gY none;refine⟨_,w',g5,jY ι β ⟨w.heap.size,nc,[]⟩, ?_⟩;have key:=zc.put (Xx:=noO hb rfl) hi (w' :=w') β (.row false te.size (a0::l0)) ⟨w.heap.size,nc,[]⟩ (fun x hx=>by rw[hb]at hx;cases hx;simp[xS,qE.sh,Pl.kD])
    ⟨by rw[g2.1];simp,g2.2⟩ (fun b' js _=>by rw[g2.1];simp[e_,Y' js]) (fun _=> .inl (jx _)) (fun he=>by
     have hk: ∀b,Im b->w'.heap[b]? =w.heap[b]? :=fun b hb=>he.bh hi b hb
     obtain⟨k1,k2,k3⟩:=g4.mono he.im hk
     exact⟨cs',e,(0,0),by simp[g2],kh _,by simp[g3],pZ,by simpa using g1,k1,k2,k3⟩)
   refine⟨key.1,key.2, ?_,jx _,yS xY (jx _) (xY β _ hb)⟩;have hg:(qZ [(β,qE.row false te.size (a0::l0))] H).get β=some (.row false te.size (a0::l0)):=by simp[qZ,qr.zg]
   refine .row β _ 0 _ _ _ rfl hg (fun _=>⟨_,_,_,rfl⟩) (fun _ _ _ e=>by cases e;exact jx _) fun _ _ _ e _=>?_;cases e;refine⟨z?, ?_⟩;simp only[ko,if_false];exact⟨⟨w.heap.size,0,none⟩,z?,rfl,z?,fun _=>z?⟩
  ·rename_i sz es hb;split at hr;rotate_left
   ·cases hr
   rename_i hc;obtain⟨jA,hszz,l7,gY⟩:=hc;subst l7 hszz;have hr' :r=(.row β (es.take n++src++es.drop (n+src.length)).length 0 (n+src.length),[(β,.row false te.size (es.take n++src++es.drop (n+src.length)))],nx):=by
    split at hr<;>cases hr
    ·rename_i hn;rw[take_all es src hn,hn];simp
    rfl
   subst hr';clear hr;cases hx with
   |row _ _ _ _ _ b ho js hk hv hh=>
   rw[hb]at js;cases js;obtain⟨h1,h2⟩:=hh _ _ _ rfl jA;simp only[ko,if_false]at h2;obtain⟨a,rfl,oP,eU,Qm⟩:=h2;obtain⟨ab,ao,DT⟩:=a;simp only at oP eU Qm;subst oP eU;obtain⟨vs,elem,fz,g1,g2,g3,g4,g5,g6,g7,g8⟩:=hi.row hb;have hes' :(es.take n++src++es.drop (n+src.length)).length=max es.length (n+src.length):=by
    simp;omega
   by_cases sE:n+src.length<=(ι β).cap
   ·
    have Lc:src≠[]->ao=0:=fun jz=>by
     have:=q!.2 jz;have:=Qm o?;omega
    have oC: ∀x∈cs.toList,dD x=true:=by
     intro x hx;obtain⟨m,hm⟩:=kb hx;have Vs:m<src.length*te.size:=by
      have:=(qF hm).1;simp at this;omega
     have hdiv:m / te.size<src.length:=I' (by rwa[X!]);have hmod:m % te.size<te.size:=q2a _ pZ;obtain⟨e0,P2⟩: ∃e0,src[m / te.size]? =some e0:=⟨src[m / te.size],z?⟩;have P3:=f3.1 e0 (z6 P2);obtain⟨p0,hp0⟩: ∃p0,e0[m % te.size]? =some p0:=⟨e0[m % te.size]'(o?),z?⟩;obtain⟨v0,q1,q2⟩:=f3.2.2 _ e0 _ p0 P2 hp0;have:m / te.size*te.size+m % te.size=m:=by rw[X!];exact q1o m te.size
     simp only[this]at q1;have:x=v0:=by
      have h0:cs[m]? =some x:=by simpa using hm
      rw[h0]at q1;exact Option.some.inj q1
     subst this;exact q2.dD (f3.2.1 _ e0 _ p0 P2 hp0)
    have hmul:n*te.size+src.length*te.size<=vs.size:=by
     rw[g3,<- T?];exact mulR _ sE
    have lO: ∃w',(storeCells ⟨(ι β).b,ao+n*te.size,none⟩ cs.toList).run P w=O' () w' /\(w'.heap.size=w.heap.size/\w'.os=w.os/\w'.output=w.output)/\(∀ b',b' ≠(ι β).b->w'.heap[b']? =w.heap[b']?)/\
      ∃ei:Array Value,w'.heap[(ι β).b]? =some (.cells ei elem fz)/\ei.size=vs.size/\ ∀k,ei[k]? =if n*te.size<=k/\k<n*te.size+cs.size then cs[k-n*te.size]? else vs[k]? :=by
     by_cases hs:src=[]
     ·have hcs0:cs.size=0:=by rw[f2,hs];simp
      have Xw:cs.toList=[]:=by simpa using hcs0
      refine⟨w,by rw[Xw];rfl,⟨rfl,rfl,rfl⟩,fun _ _=>rfl,vs,g1,rfl,fun k=>?_⟩;rw[if_neg o?]
     have:=Lc hs;subst this;obtain⟨w',q1,q2,q3,ei,q4,q5,q6⟩:=uG (P:=P) (ι β).b (n*te.size) elem fz cs.toList 0 w vs g1 g2 (by simp[f2];omega) oC;refine⟨w',by simpa using q1,q2,q3,ei,q4,q5,fun k=>?_⟩;rw[q6 k];simp
    obtain⟨w',q1,q2,q3,ei,q4,q5,q6⟩:=lO;have Ty:=run_append_fits (w' :=w') Kh jw dC Ju X1 tt (some ⟨(ι β).b,ao,none⟩) n ((ι β).cap-0) src.length vy l1 o? cs f1
     (fun a ha=>by cases ha;rw[add_plain];exact q1) (fun h=>by cases h)
    refine⟨_,w',Ty,jY ι β (ι β), ?_⟩;have key:=zc.put (Xx:=noO hb rfl) hi (w' :=w') β (.row false te.size (es.take n++src++es.drop (n+src.length))) (ι β)
     (fun x hx=>by
      rw[hb]at hx
      cases hx
      simp only[xS,qE.sh]
      exact⟨o?,fun _=>⟨z?,fun _=>⟨z?,Pl.Ja _⟩⟩⟩)
     ⟨o?,q2.2⟩ (fun b' _ jz=>q3 b' (fun e=>jz _ hb rfl e.symm)) (fun _=> .inr ⟨_,hb,rfl,rfl⟩) (fun mM=>by
      have hw: ∀b,Im b->w'.heap[b]? =w.heap[b]? :=fun b hb=>mM.bh hi b hb
      have pY: ∀(i:Nat) e0,(es.take n++src++es.drop (n+src.length))[i]? =some e0->
        (n<=i/\i<n+src.length/\src[i-n]? =some e0)\/(¬ (n<=i/\i<n+src.length)/\es[i]? =some e0):=by
       intro i e0 h
       by_cases hn:n+src.length<=es.length
       ·rw[kK es src n i hn]at h
        split at h
        ·rename_i hc
         exact .inl ⟨hc.1,hc.2,h⟩
        rename_i hc
        exact .inr ⟨hc,h⟩
       rw[g_ o?,List.append_nil,M!]at h
       have htl:(es.take n).length=n:=v?
       rw[htl]at h
       split at h
       ·rename_i hc
        rw[V? hc]at h
        exact .inr ⟨o?,h⟩
       rename_i hc
       have:=(qF h).1
       exact .inl ⟨o?,o?,h⟩
      refine⟨ei,elem,fz,by simpa using q4,by rw[q5];exact g2,by simp[q5,g3],pZ,by simp only[wQ];omega, ?_, ?_, ?_⟩
      ·intro e0 P2
       obtain⟨i,yw⟩:=kb P2
       rcases pY i e0 yw with ⟨_,_,h⟩|⟨_,h⟩
       ·exact f3.1 e0 (z6 h)
       exact g6 e0 (z6 h)
      ·intro i e0 j p yw hj
       rcases pY i e0 yw with ⟨_,_,h⟩|⟨_,h⟩
       ·exact f3.2.1 _ e0 j p h hj
       exact g7 _ e0 j p h hj
      intro i e0 j p yw hj
      have SU:=(qF hj).1
      rw[q6]
      rcases pY i e0 yw with ⟨k1,k2,h⟩|⟨k1,h⟩
      ·obtain⟨v0,w1,w2⟩:=f3.2.2 _ e0 j p h hj
       have P3:=f3.1 e0 (z6 h)
       have e1:i*te.size+j-n*te.size=(i-n)*te.size+j:=by
        have:i=n+(i-n):=o?
        conv=>lhs;rw[this,T?]
        omega
       have e2:n*te.size<=i*te.size:=mulR _ k1
       have e3:(i+1)*te.size<=(n+src.length)*te.size:=mulR _ k2
       rw[B?,T?]at e3
       rw[if_pos ⟨o?,by rw[f2];omega⟩,e1]
       exact⟨v0,w1,w2.mono mM.im hw⟩
      obtain⟨v0,w1,w2⟩:=g8 _ e0 j p h hj
      have P3:=g6 e0 (z6 h)
      have lN: ¬(n*te.size<=i*te.size+j/\i*te.size+j<n*te.size+cs.size):=by
       rw[f2]
       by_cases xJ:i<n
       ·have:(i+1)*te.size<=n*te.size:=mulR _ xJ
        rw[B?]at this
        omega
       have:(n+src.length)*te.size<=i*te.size:=mulR _ o?
       rw[T?]at this
       omega
      rw[if_neg lN]
      exact⟨v0,w1,w2.mono mM.im hw⟩)
    refine⟨key.1,key.2, ?_,jx _,yS xY (jx _) (xY β _ hb)⟩;have hg:(qZ [(β,qE.row false te.size (es.take n++src++es.drop (n+src.length)))] H).get β=some (.row false te.size (es.take n++src++es.drop (n+src.length))):=by simp[qZ,qr.zg]
    refine .row β _ 0 _ _ _ rfl hg (fun _=>⟨_,_,_,rfl⟩) (fun _ _ _ e=>by cases e;exact jx _) fun _ _ _ e _=>?_;cases e;refine⟨o?, ?_⟩;simp only[ko,if_false];refine⟨⟨(ι β).b,ao,none⟩,z?,rfl,z?,fun hc=>?_⟩;simp only[wQ]at hc;have:=Qm hc;simpa using this
   have l7:es.drop (n+src.length)=[]:=g_ o?;have hw:(vn w).heap=w.heap:=rfl;have hself:yI (.row β xf 0 n) H=some (te.size,es.take n):=by
    simp[yI,hb,jA]
   have hxx:RA w H ι Im (.row β xf 0 n) (.slice (some ⟨(ι β).b,ao,none⟩) n ((ι β).cap-0)):=
    .row β xf 0 n _ _ rfl hb hk hv hh
   have htl:(es.take n).length=n:=v?;obtain⟨NW,k1,k2,k3⟩:=(tV (P:=P) (hi.bP hw ⟨rfl,rfl⟩) (hxx.bP hw ⟨rfl,rfl⟩ hi) hself).2 te.size (.inl rfl);obtain⟨new,m1,m2,m3⟩:=(tV (P:=P) (hi.bP hw ⟨rfl,rfl⟩) (hy.bP hw ⟨rfl,rfl⟩ hi) rP).2 te.size mr;rw[htl]at k1 k2;obtain⟨nc,rest,r1,r2,r3⟩:=pA (w:=w) Kh jw dC Ju X1 tt (some ⟨(ι β).b,ao,none⟩) n ((ι β).cap-0) src.length vy l1 o? gY NW new k1 m1;have eB:=xR.append (rest:=rest) k3 m3 (by rw[k2,htl]);have hrow' :=eB.mono (w' :=w) (jV:=Im) (fun _ h=>h) (fun b _=>by rw[hw]);have hes2:es.take n++src++es.drop (n+src.length)=es.take n++src:=by rw[l7];simp
   rw[hes2]at hes' |-;refine⟨_,_,r3,jY ι β ⟨w.heap.size,nc,[]⟩, ?_⟩;have Lo:(es.take n++src).length=n+src.length:=v?;have key:=zc.put (Xx:=noO hb rfl) hi (w' :={ vn w with heap:=w.heap.push (.cells (NW++new++rest) e) }) β (.row false te.size (es.take n++src)) ⟨w.heap.size,nc,[]⟩
    (fun x hx=>by
     rw[hb]at hx
     cases hx
     simp only[xS,qE.sh]
     exact⟨o?,fun h=>o?⟩)
    ⟨z?,rfl,rfl⟩ (fun b' js _=>by simp[e_,Y' js]) (fun _=> .inl (jx _)) (fun he=>by
     have hk: ∀b,Im b->_:=fun b hb=>he.bh hi b hb
     obtain⟨p1,p2,p3⟩:=hrow'.mono he.im hk
     refine⟨NW++new++rest,e,(0,0),z?,kh _, ?_,pZ,by simp only[wQ];omega,p1,p2,p3⟩
     simp only[wQ,J_,k2,m2,r2,<- T?]
     congr 1
     omega)
   refine⟨key.1,key.2, ?_,jx _,yS xY (jx _) (xY β _ hb)⟩;have hg:(qZ [(β,qE.row false te.size (es.take n++src))] H).get β=some (.row false te.size (es.take n++src)):=by simp[qZ,qr.zg]
   refine .row β _ 0 _ _ _ rfl hg (fun _=>⟨_,_,_,rfl⟩) (fun _ _ _ e=>by cases e;exact jx _) fun _ _ _ e _=>?_;cases e;refine⟨o?, ?_⟩;simp only[ko,if_false];exact⟨⟨w.heap.size,0,none⟩,z?,rfl,z?,fun _=>z?⟩
  cases hr
 cases hr
end
section
variable [xg] {P:Program} {w:World} {H:qr} {ι:yq} {Im:Nat->Prop}
theorem X4(a:Addr): ∀(n i:Nat)(acc cs:Array Value),(loadCellsFrom a i n acc).run P w= .ok cs w->
  ∃l:List Value,l.length=n/\cs.toList=acc.toList++l/\ ∀m,m<=n->(loadCellsFrom a i m acc).run P w= .ok ⟨acc.toList++l.take m⟩ w
 |0,i,acc,cs,h=>by simp only[loadCellsFrom,K?,Result.ok.injEq,and_true]at h;subst h;refine⟨[],rfl,z?,fun m hm=>?_⟩;have:m=0:=o?;subst this;simp[loadCellsFrom]
 |n+1,i,acc,cs,h=>by (obtain⟨v,hv⟩: ∃v,(load (a.add i)).run P w= .ok v w:=by simp only[loadCellsFrom,jT]at h;rw[run_load]at h |-;split at h;exact⟨_,rfl⟩;split at h;exact⟨_,rfl⟩;cases h);simp only[loadCellsFrom,jT,hv,me]at h;obtain⟨l,h1,h2,h3⟩:=X4 a n (i+1) (acc.push v) cs h;refine⟨v::l,by simp[h1],by simp[h2],fun m hm=>?_⟩;cases m with|zero=>simp[loadCellsFrom]|succ m=>have:=h3 m o?;simp only[loadCellsFrom,jT,hv,me,this];simp
theorem JW{size n k:Nat}{v:Value}{cs:Array Value}(h:(Builtin.firstCells size n v).run P w= .ok cs w)(hk:k<=n)(hl:cs.size=n*size):
  (Builtin.firstCells size k v).run P w= .ok ⟨cs.toList.take (k*size)⟩ w:=by have Ng:k*size<=n*size:=mulR _ hk;cases v with|slice base a c=>(cases base with|none=>simp only[Builtin.firstCells,Sem.run_pure,Result.ok.injEq,and_true]at h |-;subst h;simp|some ad=>simp only[Builtin.firstCells,loadCells]at h |-;obtain⟨l,h1,h2,h3⟩:=X4 ad (n*size) 0 #[] cs h;rw[h3 _ Ng];simp[h2])|string s=>simp only[Builtin.firstCells,Sem.run_pure,Result.ok.injEq,and_true]at h |-;subst h;simp at hl;by_cases hk0:k=0;subst hk0;simp;(have mr:size=1\/min n s.size=0:=by rcases Nat.lt_or_ge size 2 with h|h;rcases Nat.lt_or_ge size 1 with h' |h';right;have:size=0:=o?;subst this;omega;left;omega;have:=Nat.mul_le_mul_left n h;right;omega);rcases mr with rfl|h0;apply Array.ext';simp[List.take_take,Nat.min_eq_left hk];(have:s.size=0:=o?;apply Array.ext';have hs:s.data.toList=[]:=by cases s with|mk d=>simpa[ByteArray.size]using this);simp[hs]|_=>simp[Builtin.firstCells]at h
theorem xR.take{sz k:Nat}{es:List (List PV)}{cs:Array Value}(h:xR w Im sz es (cs[·]?)):xR w Im sz (es.take k) ((⟨cs.toList.take (k*sz)⟩:Array Value)[·]?):=by refine⟨fun e he=>h.1 e (W? he),fun i e j p hi hj=>?_,fun i e j p hi hj=>?_⟩;have xJ:=(qF hi).1;simp at xJ;rw[V? o?]at hi;exact h.2.1 i e j p hi hj;have xJ:=(qF hi).1;simp at xJ;rw[V? o?]at hi;obtain⟨v,h1,h2⟩:=h.2.2 i e j p hi hj;refine⟨v, ?_,h2⟩;have SU:=(qF hj).1;have he:=h.1 e (z6 hi);have:(i+1)*sz<=k*sz:=mulR _ o?;rw[B?]at this;simp only[I?];rw[V? o?];simpa using h1
theorem Of{ts e:TypeId}{ti te:TI}(Kh:zN P ts ti)(jw:ti.td= .slice e)(dC:zN P e te){cu:Array TypeId}(h0:cu[0]? =some ts)(tt:TypeId)
  (hi:zc w H ι Im) {nx:Nat} {X:Nat->Prop} (xY:Bd X H nx) {x y:AV} {vx vy:Value} (hx:RA w H ι Im x vx) (hy:RA w H ι Im y vy) {r:mC} (hr:ZM te x y H nx=some r):
  ∃u w',(Builtin.copy_ cu tt #[vx,vy]).run P w= .ok u w' /\tD X w H ι Im nx r u w' :=by
 unfold ZM at hr;split at hr
 ·cases hr
 rename_i rD V7 rP;split at hr;rotate_left
 ·cases hr
 rename_i β xf off n;split at hr;rotate_left
 ·cases hr
 rename_i sz es hb;split at hr<;>cases hr;rename_i hc;obtain⟨jA,hszz,mr⟩:=hc;subst hszz;obtain⟨l1,cs0,f1',f2',f3'⟩:(Builtin.lenOf vy).run P w= .ok V7.length w/\ ∃cs,(Builtin.firstCells te.size V7.length vy).run P w= .ok cs w/\cs.size=V7.length*te.size/\xR w Im te.size V7 (cs[·]?):=by
  obtain⟨a,b⟩:=tV (P:=P) hi hy rP;exact⟨a,b te.size mr⟩
 generalize hsrc' :V7.take n=src;have hk:src.length=min V7.length n:=by rw[<- hsrc'];simp[Nat.min_comm]
 have f1:=JW f1' (show src.length<=V7.length by omega) f2';have f3:xR w Im te.size src ((⟨cs0.toList.take (src.length*te.size)⟩:Array Value)[·]?):=by
  have:=f3'.take (k:=src.length);have e:V7.take src.length=src:=by
   rw[<- hsrc',List.take_eq_take_iff];simp
  rwa[e]at this
 have f2:(⟨cs0.toList.take (src.length*te.size)⟩:Array Value).size=src.length*te.size:=by
  have:src.length*te.size<=V7.length*te.size:=mulR _ o?;show(cs0.toList.take _).length=_;rw[List.length_take];have h2:cs0.toList.length=V7.length*te.size:=f2';rw[h2];exact Nat.min_eq_left this
 generalize (⟨cs0.toList.take (src.length*te.size)⟩:Array Value)=cs at f1 f2 f3;have hxx:=hx;cases hx with
 |row _ _ _ _ _ b ho js ZG hv hh=>
 rw[hb]at js;cases js;obtain⟨h1,h2⟩:=hh _ _ _ rfl jA;simp only[ko,if_false]at h2;obtain⟨a,rfl,oP,eU,Qm⟩:=h2;obtain⟨ab,ao,DT⟩:=a;simp only at oP eU Qm;subst oP eU;obtain⟨vs,elem,fz,g1,g2,g3,pZ,g5,g6,g7,g8⟩:=hi.row hb;have hsn:src.length<=n:=o?;have Lc:src≠[]->ao=off*te.size:=fun jz=>by
  have:=q!.2 jz;exact Qm o?
 have oC: ∀x∈cs.toList,dD x=true:=by
  intro x hx;obtain⟨m,hm⟩:=kb hx;have Vs:m<src.length*te.size:=by
   have:=(qF hm).1;simp at this;omega
  have hdiv:m / te.size<src.length:=I' (by rwa[X!]);have hmod:m % te.size<te.size:=q2a _ pZ;obtain⟨e0,P2⟩: ∃e0,src[m / te.size]? =some e0:=⟨src[m / te.size],z?⟩;have P3:=f3.1 e0 (z6 P2);obtain⟨p0,hp0⟩: ∃p0,e0[m % te.size]? =some p0:=⟨e0[m % te.size]'(o?),z?⟩;obtain⟨v0,q1,q2⟩:=f3.2.2 _ e0 _ p0 P2 hp0;have:m / te.size*te.size+m % te.size=m:=by rw[X!];exact q1o m te.size
  simp only[this]at q1;have:x=v0:=by
   have h0:cs[m]? =some x:=by simpa using hm
   rw[h0]at q1;exact Option.some.inj q1
  subst this;exact q2.dD (f3.2.1 _ e0 _ p0 P2 hp0)
 have hmul:off*te.size+src.length*te.size<=vs.size:=by
  rw[g3,<- T?];exact mulR _ o?
 have lO: ∃w',(storeCells ⟨(ι β).b,ao,none⟩ cs.toList).run P w=O' () w' /\(w'.heap.size=w.heap.size/\w'.os=w.os/\w'.output=w.output)/\(∀ b',b' ≠(ι β).b->w'.heap[b']? =w.heap[b']?)/\
   ∃ei:Array Value,w'.heap[(ι β).b]? =some (.cells ei elem fz)/\ei.size=vs.size/\ ∀k,ei[k]? =if off*te.size<=k/\k<off*te.size+cs.size then cs[k-off*te.size]? else vs[k]? :=by
  by_cases hs:src=[]
  ·have hcs0:cs.size=0:=by rw[f2,hs];simp
   have Xw:cs.toList=[]:=by simpa using hcs0
   refine⟨w,by rw[Xw];rfl,⟨rfl,rfl,rfl⟩,fun _ _=>rfl,vs,g1,rfl,fun k=>?_⟩;rw[if_neg o?]
  have:=Lc hs;subst this;obtain⟨w',q1,q2,q3,ei,q4,q5,q6⟩:=uG (P:=P) (ι β).b (off*te.size) elem fz cs.toList 0 w vs g1 g2 (by simp[f2];omega) oC;refine⟨w',by simpa using q1,q2,q3,ei,q4,q5,fun k=>?_⟩;rw[q6 k];simp
 obtain⟨w',q1,q2,q3,ei,q4,q5,q6⟩:=lO;have Ty:(Builtin.copy_ cu tt #[.slice (some ⟨(ι β).b,ao,none⟩) n ((ι β).cap-off),vy]).run P w= .ok (.int .i64 (src.length:Nat)) w' :=by
  have hmin:Nat.min V7.length n=src.length:=hk.symm;unfold Builtin.copy_;simp only[I?,c?,i?,h0,jT,qx (Kh.slice jw),me,l1,dC.size,hmin,f1,q1,K?,goInt]
 have hes' :(es.take off++src++es.drop (off+src.length)).length=es.length:=by
  simp;omega
 refine⟨_,w',Ty,jY ι β (ι β), ?_⟩;have key:=zc.put (Xx:=noO hb rfl) hi (w' :=w') β (.row false te.size (es.take off++src++es.drop (off+src.length))) (ι β)
  (fun x hx=>by
   rw[hb]at hx
   cases hx
   simp only[xS,qE.sh]
   exact⟨o?,fun _=>⟨z?,fun _=>⟨z?,Pl.Ja _⟩⟩⟩)
  ⟨o?,q2.2⟩ (fun b' _ jz=>q3 b' (fun e=>jz _ hb rfl e.symm)) (fun _=> .inr ⟨_,hb,rfl,rfl⟩) (fun mM=>by
   have hw: ∀b,Im b->w'.heap[b]? =w.heap[b]? :=fun b hb=>mM.bh hi b hb
   have pY: ∀(i:Nat) e0,(es.take off++src++es.drop (off+src.length))[i]? =some e0->
     (off<=i/\i<off+src.length/\src[i-off]? =some e0)\/(¬ (off<=i/\i<off+src.length)/\es[i]? =some e0):=by
    intro i e0 h
    rw[kK es src off i o?]at h
    split at h
    ·rename_i hc
     exact .inl ⟨hc.1,hc.2,h⟩
    rename_i hc
    exact .inr ⟨hc,h⟩
   refine⟨ei,elem,fz,by simpa using q4,by rw[q5];exact g2,by simp[q5,g3],pZ,by simp only[wQ];omega, ?_, ?_, ?_⟩
   ·intro e0 P2
    obtain⟨i,yw⟩:=kb P2
    rcases pY i e0 yw with ⟨_,_,h⟩|⟨_,h⟩
    ·exact f3.1 e0 (z6 h)
    exact g6 e0 (z6 h)
   ·intro i e0 j p yw hj
    rcases pY i e0 yw with ⟨_,_,h⟩|⟨_,h⟩
    ·exact f3.2.1 _ e0 j p h hj
    exact g7 _ e0 j p h hj
   intro i e0 j p yw hj
   have SU:=(qF hj).1
   rw[q6]
   rcases pY i e0 yw with ⟨k1,k2,h⟩|⟨k1,h⟩
   ·obtain⟨v0,w1,w2⟩:=f3.2.2 _ e0 j p h hj
    have P3:=f3.1 e0 (z6 h)
    have e1:i*te.size+j-off*te.size=(i-off)*te.size+j:=by
     have:i=off+(i-off):=o?
     conv=>lhs;rw[this,T?]
     omega
    have e2:off*te.size<=i*te.size:=mulR _ k1
    have e3:(i+1)*te.size<=(off+src.length)*te.size:=mulR _ k2
    rw[B?,T?]at e3
    rw[if_pos ⟨o?,by rw[f2];omega⟩,e1]
    exact⟨v0,w1,w2.mono mM.im hw⟩
   obtain⟨v0,w1,w2⟩:=g8 _ e0 j p h hj
   have P3:=g6 e0 (z6 h)
   have lN: ¬(off*te.size<=i*te.size+j/\i*te.size+j<off*te.size+cs.size):=by
    rw[f2]
    by_cases xJ:i<off
    ·have:(i+1)*te.size<=off*te.size:=mulR _ xJ
     rw[B?]at this
     omega
    have:(off+src.length)*te.size<=i*te.size:=mulR _ o?
    rw[T?]at this
    omega
   rw[if_neg lN]
   exact⟨v0,w1,w2.mono mM.im hw⟩)
 exact⟨key.1,key.2,.pv _ _ (.int _ _),jx _,yS xY (jx _) (xY β _ hb)⟩
end
end Go.Gm
