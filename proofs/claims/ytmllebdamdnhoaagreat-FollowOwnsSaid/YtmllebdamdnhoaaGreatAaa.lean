/-
  The machine, part a.
-/
import Derived.WalkKit
import GoSem.Claims
set_option linter.unusedSimpArgs false
set_option linter.unusedVariables false
namespace Go.Gm
open Go
section
variable {α β:Type}
theorem qG{l:List α}{i:Nat}{a:α}(h:l[i]? =some a): ∃h:i<l.length,l[i]=a:=List.getElem?_eq_some_iff.1 h
theorem qX{l:List α}{i:Nat}{a:α}(h:l[i]? =some a):a∈l:=List.mem_of_getElem? h
theorem xJ(n:Nat):n<=n:=Nat.le_refl n
theorem mulR{m n:Nat}(k:Nat)(h:m<=n):m*k<=n*k:=Nat.mul_le_mul_right k h
theorem yi{f:α->β}{x:Option α}{b:β}:x.map f=some b↔ ∃a,x=some a/\f a=b:=Option.map_eq_some_iff
theorem z7(a:α)(f:α->Option β):(some a).bind f=f a:=by simp
theorem xe{α β:Type}: @bind Option _ α β=Option.bind:=by rfl
theorem kU{l:List α}{i:Nat}(h:i<l.length):l[i]? =some l[i]:=List.getElem?_eq_getElem h
theorem jz{a:α}{l:List α}(h:a∈l): ∃i:Nat,l[i]? =some a:=List.getElem?_of_mem h
theorem kX{a b:α}:(some a=some b)=(a=b):=by simp
theorem w9:(false=true)=False:=by simp
theorem zB(a b:Bool):((a&&b)=true)=(a=true/\b=true):=by simp
theorem gm(a:α)(w:World)(f:α->World->Result β):(Result.ok a w).andThen f=f a w:=rfl
theorem ji(P:Program)(w:World)(x:Sem α)(f:α->Sem β):Sem.run P (x>>=f) w=(Sem.run P x w).andThen fun a w' =>Sem.run P (f a) w' :=Sem.run_bind P w x f
end
inductive PV where
 |bool (b:Bool)
 |int (k:IntKind) (n:Int)
 |str (s:List UInt8)
 |agg (c:List PV)
 |sl (qq:Bool) (sz:Nat) (es:List (List PV))
 |jk
 |rY
 |gG
 |dU
 |fn (f:FuncId)
 |rp (c:List PV)
 deriving Inhabited
def PV.Km:PV->Bool
 | .bool _| .int _ _| .str _| .jk| .rY| .gG| .dU| .fn _=>true
 |_=>false
inductive AV where
 |pv (p:PV)
 |ptr (β:Nat) (o:Nat)
 |yT (β zF i o:Nat)
 |mS (c:List PV) (o:Nat)
 |row (β zF off n:Nat)
 |aU
 |map (β:Nat)
 |lr (f:FuncId) (first cap:List AV)
 |agg (c:List AV)
 |xS (l:List AV)
 |undef
 deriving Inhabited
inductive qD where
 |box (c:List AV)
 |row (qq:Bool) (sz:Nat) (es:List (List PV))
 |map (es:List (PV×PV×Nat)) (zI:Nat)
 |yq (sz:Nat) (es:List (List AV))
 |jI (qq:Bool) (fx:List Nat) (es:List PV) (i6:Option (Nat×Nat×Nat))
 |xf
 deriving Inhabited
def qD.sh:qD->Option (Bool×Nat×Nat)
 | .row qq sz es=>some (qq,sz,es.length)
 | .yq sz es=>some (false,sz,es.length)
 | .jI qq _ es _=>some (qq,1,es.length)
 |_=>none
def qD.slv:qD->Option (Bool×Nat×Nat)
 | .row qq sz es=>some (qq,sz,es.length)
 | .jI qq _ es none=>some (qq,1,es.length)
 |_=>none
def zC{α:Type}(k:Nat):List α->Nat
 |[]=>0
 |_::_=>k
def Ck(qq:Bool)(sz:Nat)(es:List (List PV)):PV:= .sl qq (zC sz es) es
abbrev vF:=List (Nat×AV)
abbrev qn:=List (Nat×qD)
def vF.get:vF->Nat->AV
 |[],_=> .undef
 |(i,v)::r,n=>if i=n then v else vF.get r n
def qn.get:qn->Nat->Option qD
 |[],_=>none
 |(i,v)::r,n=>if i=n then some v else qn.get r n
def qn.put:qn->Nat->qD->qn
 |[],n,x=>[(n,x)]
 |(i,v)::r,n,x=>if i=n then(i,x)::r else(i,v)::qn.put r n x
structure St where
 env:vF
 heap:qn
 nx:Nat
 deriving Inhabited
inductive TD where
 |struct (fields:List (Nat×Nat×TypeId))
 |array (len:Nat) (elem:TypeId)
 |slice (elem:TypeId)
 |map (key elem:TypeId)
 |bool
 |int (k:IntKind)
 |string
 |ptr
 |func
 |other
 deriving Inhabited
structure TI where
 size:Nat
 bytes:Nat
 td:TD
 zero:List PV
 eq:Bool
 pe:Option TypeId:=none
 deriving Inhabited
def TI.isAgg(t:TI):Bool:=match t.td with| .struct _| .array _ _=>true|_=>false
def IC:Value->Option PV
 | .bool b=>some (.bool b)
 | .int k n=>some (.int k n)
 | .string s=>some (.str s.data.toList)
 | .pointer none=>some .jk
 | .slice none 0 0=>some (.sl true 0 [])
 | .map none=>some .gG
 | .nilFunc=>some .rY
 | .nilIface=>some .dU
 | .func (.func f) ⟨[]⟩ ⟨[]⟩=>some (.fn f)
 |_=>none
def ae:List Value->Option (List PV)
 |[]=>some []
 |v::r=>match IC v,ae r with
  |some p,some l=>some (p::l)
  |_,_=>none
def avOf(v:Value):AV:=
 match v with
 | .agg ⟨cs⟩=>match ae cs with|some l=> .pv (.agg l)|none=> .undef
 | .tuple ⟨[]⟩=> .xS []
 |v=>match IC v with|some p=> .pv p|none=> .undef
structure nV where
 YF:List Nat:=[]
 out:List Nat:=[]
 jQ:List Nat:=[]
 zL:List (Nat×Nat):=[]
 freeze:List Nat:=[]
 own:Nat:=0
 deriving Inhabited
def nV.off(sp:nV):Nat:=if sp.own=1000 then 0 else sp.own
structure FI where
 nt:Nat
 results:List ResultVar
 body:Code
 deriving Inhabited
inductive S0 where
 |focus (t:Nat) (is:List Nat)
 |pack (t:Nat)
 |cut (t:Nat)
 |prom (t:Nat) (fx:List Nat)
 |HX (t:Nat)
 deriving Inhabited
structure GP where
 ti:TypeId->Option TI
 fn:FuncId->Option FI
 spec:FuncId->Nat->nV
 owned:FuncId->Bool
 tB:FuncId->Bool
 pre:FuncId->Nat->List Nat
 HX:TypeId->Bool
 DZ:TypeId->Bool
 cmd:FuncId->Nat->List S0
def ev(E:vF):Operand->AV
 | .tmp t=>E.get t
 | .const v=>avOf v
 | .global _=> .undef
 | .func f=> .pv (.fn f)
def iq:List AV->Option (List PV)
 |[]=>some []
 | .pv p::r=>match iq r with|some l=>some (p::l)|none=>none
 |_::_=>none
def ZS(c:List AV):AV:=match iq c with|some l=> .pv (.agg l)|none=> .agg c
def AV.cells:AV->List AV
 | .pv (.agg c)=>c.map .pv
 | .agg c=>c
 |v=>[v]
def PV.cells:PV->List PV
 | .agg c=>c
 |p=>[p]
def AV.Bu:AV->Bool
 | .undef| .xS _=>false
 |_=>true
def AV.slc:AV->Bool
 | .row _ _ _ _| .aU| .pv (.sl _ _ _)=>true
 |_=>false
def Kf:AV->Option PV
 | .pv p=>some p
 | .aU=>some (.sl false 0 [])
 |_=>none
def wW:AV->Option Nat
 | .pv (.int _ n)=>if 0<=n then some n.toNat else none
 |_=>none
abbrev bY:=AV×List (Nat×qD)×Nat
def DY(ti:TI)(c:List AV):Option AV:=
 if ti.isAgg then(if ti.size<=c.length then some (ZS (c.take ti.size))else none)
 else match c with|x::_=>some x|[]=>none
def ldP(ti:TI)(c:List PV):Option AV:=
 if ti.isAgg then(if ti.size<=c.length then some (.pv (.agg (c.take ti.size)))else none)
 else match c with|x::_=>some (.pv x)|[]=>none
def oP(ti:TI)(a:AV)(H:qn):Option AV:=
 match a with
 | .ptr β o=>match H.get β with
  |some (.box c)=>DY ti (c.drop o)
  |_=>none
 | .yT β zF i o=>match H.get β with
  |some (.row false _ es)=>if zF=es.length then match es[i]? with|some e=>ldP ti (e.drop o)|none=>none else none
  |some (.yq _ es)=>if zF=es.length then match es[i]? with|some e=>DY ti (e.drop o)|none=>none else none
  |some (.jI false _ es (some (j,γ,fv)))=>if zF=es.length/\o=0/\j=i then DY ti [.row γ fv 0 fv]else none
  |_=>none
 | .mS c o=>ldP ti (c.drop o)
 | .pv (.rp c)=>ldP ti c
 |_=>none
def lN(sz β zF i o size:Nat)(vs:List AV)(es:List (List AV)):Option (List (Nat×qD)):=none
def Yk:Option (Nat×Nat×Nat)->Nat->Bool
 |some x,i=>decide (x.1=i)
 |none,_=>true
def Zr(β zF i o size:Nat)(v:AV)(ds:List Nat)(es:List PV)(i6:Option (Nat×Nat×Nat)):Option (List (Nat×qD)):=
 match v with
 | .row γ fv 0 n=>if zF=es.length/\i<es.length/\o=0/\size=1/\n=fv/\Yk i6 i=true then some [(β,.jI false ds es (some (i,γ,fv)))]else none
 |_=>none
def e9(ti:TI)(a v:AV)(H:qn):Option (List (Nat×qD)):=
 if v.Bu=true/\v.cells.length=ti.size then
  match a with
  | .ptr β o=>match H.get β with
   |some (.box c)=>if o+ti.size<=c.length then some [(β,.box (c.take o++v.cells++c.drop (o+ti.size)))]else none
   |_=>none
  | .yT β zF i o=>match iq v.cells with
   |some ps=>match H.get β with
    |some (.row false sz es)=>
     if zF=es.length then match es[i]? with
      |some e=>if o+ti.size<=e.length then some [(β,.row false sz (es.set i (e.take o++ps++e.drop (o+ti.size))))]else none
      |none=>none
     else none
    |some (.yq sz es)=>lN sz β zF i o ti.size v.cells es
    |_=>none
   |none=>match H.get β with
    |some (.yq sz es)=>lN sz β zF i o ti.size v.cells es
    |some (.jI false ds es i6)=>Zr β zF i o ti.size v ds es i6
    |_=>none
  |_=>none
 else none
def iE(z6:Nat->Option (Nat×Nat))(ρ:Operand->AV):List (Nat×Operand)->List AV->Option (List AV)
 |[],c=>some c
 |(i,x)::r,c=>
  match z6 i with
  |some (off,size)=>
   if(ρ x).Bu=true/\(ρ x).cells.length=size/\off+size<=c.length then
    iE z6 ρ r (c.take off++(ρ x).cells++c.drop (off+size))
   else none
  |none=>none
def iC(fs:List (Nat×Nat×TypeId))(i:Nat):Option (Nat×Nat):=match fs[i]? with|some (o,s,_)=>some (o,s)|none=>none
def J1(ti:TI)(aS:TypeId->Option TI)(ρ:Operand->AV)(parts:List (Nat×Operand)):Option AV:=
 match ti.td with
 | .struct fs=>match iE (iC fs) ρ parts (ti.zero.map .pv)with|some c=>some (ZS c)|none=>none
 | .array _ e=>match aS e with
  |some te=>match iE (fun i=>some (i*te.size,te.size)) ρ parts (ti.zero.map .pv)with|some c=>some (ZS c)|none=>none
  |none=>none
 |_=>none
def pL(size:Nat)(ρ:Operand->AV):List (Nat×Operand)->List (List PV)->Option (List (List PV))
 |[],es=>some es
 |(i,x)::r,es=>
  match Kf (ρ x)with
  |some p=>if p.cells.length=size/\i<es.length then pL size ρ r (es.set i p.cells)else none
  |none=>none
def mq(size:Nat)(ρ:Operand->AV):List (Nat×Operand)->List (List AV)->Option (List (List AV))
 |[],es=>some es
 |(i,x)::r,es=>if(ρ x).Bu=true/\(ρ x).cells.length=size/\i<es.length then mq size ρ r (es.set i (ρ x).cells)else none
def vT(v:AV)(H:qn):Option (Nat×List (List PV)):=
 match v with
 | .pv (.sl _ sz es)=>some (sz,es)
 | .aU=>some (0,[])
 | .row β zF off n=>match H.get β with
  |some (.row _ sz es)=>if zF=es.length then some (sz,(es.drop off).take n)else none
  |_=>none
 | .pv (.str s)=>some (1,s.map fun b=>[.int .u8 b.toNat])
 |_=>none
def qg(zm bytes:Nat):Bool:=decide (zm*bytes<=2^46)&&decide (zm<=2^46)&&decide (bytes<=2^20)
def jH(te:TI)(s:AV)(src:List (List PV))(γ nx cM:Nat):Option bY:=
 match src with
 |[]=>some (s,[],nx)
 |_::_=>if qg src.length te.bytes=true then some (.row γ src.length 0 src.length,[(γ,.row false te.size src)],cM)else none
def dF(v:AV)(H:qn):Option (Nat×List (List AV)):=
 match v with
 | .row β zF off n=>match H.get β with
  |some (.yq sz es)=>if zF=es.length then some (sz,(es.drop off).take n)else none
  |_=>none
 |_=>none
def ek(te:TI)(src:List (List AV))(γ cM:Nat):Option bY:=
 match src with
 |[]=>none
 |_::_=>if qg src.length te.bytes=true then some (.row γ src.length 0 src.length,[(γ,.yq te.size src)],cM)else none
def bx(te:TI)(s x:AV)(H:qn)(nx:Nat):Option bY:=
 match dF x H with
 |none=>none
 |some (mU,src)=>
  if mU=te.size/\0<te.size then
   match s with
   | .pv (.sl true _ _)=>ek te src nx (nx+1)
   | .row β zF off n=>match H.get β with
    |some (.row true _ es)=>if zF=es.length/\off=0/\n=0 then ek te src β nx else none
    |some (.yq sz es)=>
     if zF=es.length/\sz=te.size/\off=0/\n=es.length/\qg (n+src.length) te.bytes=true then
      some (.row β (es++src).length 0 (es++src).length,[(β,.yq te.size (es++src))],nx)
     else none
    |_=>none
   |_=>none
  else none
def ua(te:TI)(s x:AV)(H:qn)(nx:Nat):Option bY:=
 match vT x H with
 |none=>bx te s x H nx
 |some (mU,src)=>
  if(mU=te.size\/src=[])/\0<te.size then
   match s with
   | .pv (.sl true _ _)=>jH te s src nx nx (nx+1)
   | .aU=>jH te s src nx nx (nx+1)
   | .row β zF off n=>match H.get β with
    |some (.row true _ es)=>if zF=es.length/\off=0/\n=0 then jH te s src β nx nx else none
    |some (.row false sz es)=>
     if zF=es.length/\sz=te.size/\off=0/\qg (n+src.length) te.bytes=true then
      if n=es.length then some (.row β (es++src).length 0 (es++src).length,[(β,.row false te.size (es++src))],nx)
      else some (.row β (es.take n++src++es.drop (n+src.length)).length 0 (n+src.length),[(β,.row false te.size (es.take n++src++es.drop (n+src.length)))],nx)
     else none
    |_=>none
   |_=>none
  else none
def bA(te:TI)(s x:AV)(H:qn)(nx:Nat):Option bY:=
 match dF x H with
 |some (mU,[[.row γ fv 0 fn]])=>match s with
  | .row β zF off n=>match H.get β with
   |some (.jI qq ds es none)=>if zF=es.length/\off=0/\n=es.length/\mU=te.size/\te.size=1/\fn=fv/\qg (n+1) te.bytes=true then
     some (.row β (es.length+1) 0 (es.length+1),[(β,.jI false ds (es++[.sl true 0 []]) (some (es.length,γ,fv)))],nx)else none
   |_=>none
  |_=>none
 |_=>none
def nL:List (List PV)->Option (List UInt8)
 |[]=>some []
 |[.int .u8 n]::r=>match nL r with|some l=>some (UInt8.ofNat n.toNat::l)|none=>none
 |_=>none
def uU(e:TypeId)(te:TI)(s x:AV)(H:qn)(nx:Nat):Option bY:=none
def mK(x:AV)(H:qn)(nx:Nat):Option bY:=none
def uw(el:TypeId)(p x:AV)(H:qn)(nx:Nat):Option bY:=none
def Q4(te:TI)(d x:AV)(H:qn)(nx:Nat):Option bY:=
 match vT x H with
 |none=>none
 |some (mU,src)=>match d with
  | .row β zF off n=>match H.get β with
   |some (.row false sz es)=>
    if zF=es.length/\sz=te.size/\(mU=te.size\/src=[])then
     some (.pv (.int .i64 ((src.take n).length:Nat)),[(β,.row false te.size (es.take off++src.take n++es.drop (off+(src.take n).length)))],nx)
    else none
   |_=>none
  |_=>none
def mJ(td:TD)(aS:TypeId->Option TI)(x i:AV)(H:qn):Option AV:=
 match wW i with
 |none=>none
 |some k=>
  match td with
  | .slice e=>match aS e with
   |none=>none
   |some te=>match x with
    | .pv (.sl _ sz es)=>if sz=te.size then match es[k]? with|some c=>some (.mS c 0)|none=>none else none
    | .row β zF off n=>match H.get β with
     |some (.row false sz es)=>if zF=es.length/\sz=te.size/\k<n then some (.yT β zF (off+k) 0)else none
     |some (.yq sz es)=>if zF=es.length/\sz=te.size/\k<n then some (.yT β zF (off+k) 0)else none
     |some (.jI false _ es _)=>if zF=es.length/\te.size=1/\k<n then some (.yT β zF (off+k) 0)else none
     |_=>none
    |_=>none
  | .array len e=>match aS e with
   |none=>none
   |some te=>if k<len then match x with
    | .ptr β o=>some (.ptr β (o+k*te.size))
    | .yT β zF j o=>some (.yT β zF j (o+k*te.size))
    | .mS c o=>some (.mS c (o+k*te.size))
    |_=>none
    else none
  |_=>none
def e8(td:TD)(x:AV)(f:Nat):Option AV:=
 match td with
 | .struct fs=>match fs[f]? with
  |some (o',s,_)=>if 0<s then match x with
   | .ptr β o=>some (.ptr β (o+o'))
   | .yT β zF j o=>some (.yT β zF j (o+o'))
   | .mS c o=>some (.mS c (o+o'))
   | .pv (.rp c)=>some (.mS c o')
   |_=>none
   else none
  |none=>none
 |_=>none
def Hr(ti:TI)(x:AV)(off:Nat):Option AV:=
 match x with
 | .pv (.agg c)=>ldP ti (c.drop off)
 | .agg c=>DY ti (c.drop off)
 |_=>none
def jU(ρ:Operand->AV)(d:Nat):Option Operand->Option Nat
 |none=>some d
 |some x=>wW (ρ x)
def fu(td:TD)(aS:TypeId->Option TI)(ρ:Operand->AV)(x:AV)(lo hi mx:Option Operand)(H:qn):Option AV:=
 if mx.isSome=true/\hi.isNone=true then none else
 match td with
 | .string=>match x with
  | .pv (.str s)=>
   if mx.isSome then none else
   match jU ρ 0 lo,jU ρ s.length hi with
   |some l,some h=>if l<=h/\h<=s.length then some (.pv (.str ((s.take h).drop l)))else none
   |_,_=>none
  |_=>none
 | .slice e=>match aS e with
  |none=>none
  |some te=>match x with
   | .pv (.sl qq sz es)=>
    match jU ρ 0 lo,jU ρ es.length hi,jU ρ es.length mx with
    |some l,some h,some m=>
     if l<=h/\h<=m/\m<=es.length/\(sz=te.size\/es=[])then
      if mx.isSome=true/\l=m/\qq=false then some .aU else some (.pv (Ck qq sz ((es.take h).drop l)))
     else none
    |_,_,_=>none
   | .row β zF off n=>
    match H.get β with
    |some b=>match b.slv with
     |some (qq,sz,k)=>
      match jU ρ 0 lo,jU ρ n hi,jU ρ n mx with
      |some l,some h,some m=>
       if zF=k/\l<=h/\h<=m/\m<=n/\(sz=te.size\/qq=true)then
        if mx.isSome=true then(if qq=true then some (.row β zF off n)else if l=m then some .aU else none)
        else some (.row β zF (off+l) (h-l))
       else none
      |_,_,_=>none
     |none=>none
    |none=>none
   | .aU=>
    match jU ρ 0 lo,jU ρ 0 hi,jU ρ 0 mx with
    |some 0,some 0,some 0=>some .aU
    |_,_,_=>none
   |_=>none
 |_=>none
def jP:List UInt8->List UInt8->Bool
 |_,[]=>false
 |[],_::_=>true
 |a::x,b::y=>a<b || (a==b&&jP x y)
def Yx(op:BinOp)(k:IntKind)(a b:Int):Option PV:=
 match op with
 | .add=>some (.int k (k.wrap (a+b)))
 | .sub=>some (.int k (k.wrap (a-b)))
 | .mul=>some (.int k (k.wrap (a*b)))
 | .quo=>if b=0 then none else some (.int k (k.wrap (a.tdiv b)))
 | .rem=>if b=0 then none else some (.int k (a.tmod b))
 | .eql=>some (.bool (a==b))
 | .neq=>some (.bool (a != b))
 | .lss=>some (.bool (decide (a<b)))
 | .leq=>some (.bool (decide (a<=b)))
 | .gtr=>some (.bool (decide (a>b)))
 | .geq=>some (.bool (decide (a>=b)))
 | .and=>some (.int k (k.wrap (BitVec.ofInt k.bits a &&& BitVec.ofInt k.bits b).toNat))
 | .or=>some (.int k (k.wrap (BitVec.ofInt k.bits a ||| BitVec.ofInt k.bits b).toNat))
 | .xor=>some (.int k (k.wrap (BitVec.ofInt k.bits a ^^^ BitVec.ofInt k.bits b).toNat))
 | .andNot=>some (.int k (k.wrap (BitVec.ofInt k.bits a &&& ~~~BitVec.ofInt k.bits b).toNat))
 |_=>none
def Un(op:BinOp)(a b:List UInt8):Option PV:=
 match op with
 | .add=>if a.length+b.length<=2^62 then some (.str (a++b))else none
 | .eql=>some (.bool (a==b))
 | .neq=>some (.bool (!(a==b)))
 | .lss=>some (.bool (jP a b))
 | .leq=>some (.bool (jP a b || a==b))
 | .gtr=>some (.bool (!(jP a b || a==b)))
 | .geq=>some (.bool (!jP a b))
 |_=>none
def zj:List PV->List PV->Option Bool
 |[],[]=>some true
 | .int k a::r,.int k' b::r' =>if k=k' then match zj r r' with|some t=>some (a==b&&t)|none=>none else none
 | .str a::r,.str b::r' =>match zj r r' with|some t=>some (a==b&&t)|none=>none
 | .bool a::r,.bool b::r' =>match zj r r' with|some t=>some (a==b&&t)|none=>none
 |_,_=>none
def sE(td:TD)(v:AV)(H:qn):Option Bool:=
 match td with
 | .ptr=>match v with
  | .pv .jk=>some true
  | .ptr _ _| .mS _ _| .yT _ _ _ _| .pv (.rp _)=>some false
  |_=>none
 | .slice _=>match v with
  | .pv (.sl b _ _)=>some b
  | .aU=>some false
  | .row β zF _ _=>match H.get β with
   |some (.row b _ es)=>if zF=es.length then some b else none
   |_=>none
  |_=>none
 | .map _ _=>match v with
  | .pv .gG=>some true
  | .map _=>some false
  |_=>none
 | .func=>match v with
  | .pv .rY=>some true
  | .pv (.fn _)| .lr _ _ _=>some false
  |_=>none
 |_=>none
def JU(td:TD)(v:AV):Bool:=
 match td,v with
 | .ptr,.pv .jk=>true
 | .slice _,.pv (.sl true _ _)=>true
 | .map _ _,.pv .gG=>true
 | .func,.pv .rY=>true
 |_,_=>false
def xv:TD->PV->Bool
 | .int _,.int _ _| .string,.str _| .bool,.bool _=>true
 |_,_=>false
def ei(aS:TypeId->Option TI):List (Nat×Nat×TypeId)->List PV->Bool
 |[],[]=>true
 |(_,_,t)::r,p::l=>(match aS t with|some ti=>xv ti.td p|none=>false)&&ei aS r l
 |_,_=>false
def Jy(aS:TypeId->Option TI)(ti:TI)(a:List PV):Bool:=
 match ti.td with
 | .struct fs=>if ti.size<=a.length then ti.eq&&ei aS fs (a.take ti.size)else false
 |td=>xv td (a.headD .jk)
def iG(aS:TypeId->Option TI):List (Nat×Nat×TypeId)->List PV->Bool
 |[],[]=>true
 |[],_::_=>false
 |(_,_,t)::r,a=>match aS t with
  |some ti=>Jy aS ti a&&iG aS r (a.drop ti.size)
  |none=>false
def Lt(aS:TypeId->Option TI)(ti:TI)(x y:AV)(H:qn):Option Bool:=
 match ti.td with
 | .bool=>match x,y with
  | .pv (.bool a),.pv (.bool b)=>some (a==b)
  |_,_=>none
 | .struct fs=>match x,y with
  | .pv (.agg a),.pv (.agg b)=>if ti.eq=true/\iG aS fs a=true then zj a b else none
  |_,_=>none
 |td=>if JU td y=true then sE td x H else if JU td x=true then sE td y H else none
def Nj(aS:TypeId->Option TI)(op:BinOp)(ti:TI)(x y:AV)(H:qn):Option PV:=
 match op with
 | .shl=>match x,y with
  | .pv (.int k a),.pv (.int _ b)=>if 0<=b then some (.int k (k.wrap (a*2^(min b.toNat k.bits))))else none
  |_,_=>none
 | .shr=>match x,y with
  | .pv (.int k a),.pv (.int _ b)=>if 0<=b then some (.int k (a.fdiv (2^(min b.toNat k.bits))))else none
  |_,_=>none
 |op=>match x,y with
  | .pv (.int k a),.pv (.int k' b)=>if k=k' then Yx op k a b else none
  | .pv (.str a),.pv (.str b)=>Un op a b
  |x,y=>match op with
   | .eql=>match Lt aS ti x y H with|some t=>some (.bool t)|none=>none
   | .neq=>match Lt aS ti x y H with|some t=>some (.bool (!t))|none=>none
   |_=>none
def Qp:TD->AV->Bool
 | .string,.pv (.str _)=>true
 | .slice _,.pv (.sl _ _ _)=>true
 | .slice _,.row _ _ _ _=>true
 | .slice _,.aU=>true
 | .map _ _,.pv .gG=>true
 | .map _ _,.map _=>true
 |_,_=>false
def aUn(op:UnOp)(x:AV):Option PV:=
 match op,x with
 | .not,.pv (.bool b)=>some (.bool !b)
 | .neg,.pv (.int k n)=>some (.int k (k.wrap (0-n)))
 |_,_=>none
def pI(src dst:TD)(dte:TypeId->Option TI)(x:AV)(H:qn)(nx:Nat):Option bY:=
 match src,dst,x with
 |_,.int k,.pv (.int _ n)=>some (.pv (.int k (k.wrap n)),[],nx)
 |_,.string,.pv (.str s)=>some (.pv (.str s),[],nx)
 | .slice e,.string,x=>match dte e with
  |some te=>match te.td with
   | .int .u8=>match vT x H with
    |some (mU,es)=>if mU=1\/es=[]then match nL es with|some l=>some (.pv (.str l),[],nx)|none=>none else none
    |none=>none
   |_=>none
  |none=>none
 |_,.slice e,.pv (.str s)=>match dte e with
  |some te=>match te.td with
   | .int .u8=>some (.row nx s.length 0 s.length,[(nx,.row false 1 (s.map fun b=>[.int .u8 b.toNat]))],nx+1)
   |_=>none
  |none=>none
 |_,_,_=>none
def Ty:PV->PV->Option Bool
 | .int k a,.int k' b=>if k=k' then some (a==b)else none
 | .str a,.str b=>some (a==b)
 | .bool a,.bool b=>some (a==b)
 |_,_=>none
def findKey(k:PV):List (PV×PV×Nat)->Nat->Option (Option (Nat×PV×Nat))
 |[],_=>some none
 |(x,v,born)::r,i=>match Ty k x with
  |some true=>some (some (i,v,born))
  |some false=>findKey k r (i+1)
  |none=>none
def Kg(t:TI):PV:=if t.isAgg then .agg t.zero else t.zero.headD .jk
def J7(m:AV)(k:PV)(H:qn):Option (Option (Nat×PV×Nat)):=
 match m with
 | .pv .gG=>some none
 | .map β=>match H.get β with
  |some (.map es _)=>findKey k es 0
  |_=>none
 |_=>none
def dN(tk te:TI)(m k:AV)(ok:Bool)(H:qn):Option AV:=
 match k with
 | .pv k=>if xv tk.td k then match J7 m k H with
  |some (some (_,v,_))=>some (if ok then .xS [.pv v,.pv (.bool true)]else .pv v)
  |some none=>some (if ok then .xS [.pv (Kg te),.pv (.bool false)]else .pv (Kg te))
  |none=>none
  else none
 |_=>none
def ik(tk te:TI)(m k:AV)(ok:Bool)(H:qn):Option AV:=none
def cz(tk:TI)(m k v:AV)(H:qn):Option (List (Nat×qD)):=none
def pJ(tk:TI)(m k:AV)(v:PV)(H:qn):Option (List (Nat×qD)):=
 match m,k with
 | .map β,.pv k=>if xv tk.td k then match H.get β with
  |some (.map es zI)=>match findKey k es 0 with
   |some (some (i,_,born))=>some [(β,.map (es.set i (k,v,born)) zI)]
   |some none=>some [(β,.map (es++[(k,v,zI)]) (zI+1))]
   |none=>none
  |_=>none
  else none
 |_,_=>none
def ij(tk te:TI)(m k:AV)(H:qn):Option (AV×List (Nat×qD)):=none
def gj(m st:AV)(v:PV)(H:qn):Option (List (Nat×qD)):=none
def rC(tk:TI)(m k:AV)(H:qn):Option (List (Nat×qD)):=
 match m,k with
 | .pv .gG,.pv k=>if xv tk.td k then some []else none
 | .map β,.pv k=>if xv tk.td k then match H.get β with
  |some (.map es zI)=>match findKey k es 0 with
   |some (some (i,_,_))=>some [(β,.map (es.eraseIdx i) zI)]
   |some none=>some [(β,.map es zI)]
   |none=>none
  |_=>none
  else none
 |_,_=>none
def Hm(x:AV)(H:qn):Option Nat:=
 match x with
 | .pv (.str s)=>some s.length
 | .pv (.sl _ _ es)=>some es.length
 | .pv .gG=>some 0
 | .aU=>some 0
 | .row β zF _ n=>match H.get β with
  |some (.row _ _ es)=>if zF=es.length then some n else none
  |some (.yq _ es)=>if zF=es.length then some n else none
  |some (.jI _ _ es _)=>if zF=es.length then some n else none
  |_=>none
 | .map β=>match H.get β with
  |some (.map es _)=>some es.length
  |_=>none
 |_=>none
def eA(isMax:Bool)(k:IntKind):Int->List AV->Option PV
 |a,[]=>some (.int k a)
 |a,.pv (.int _ b)::r=>eA isMax k (if isMax then(if b>a then b else a)else(if b<a then b else a)) r
 |_,_=>none
def Ac(isMax:Bool):List AV->Option PV
 | .pv (.int k a)::r=>eA isMax k a r
 |[.pv (.str a),.pv (.str b)]=>if isMax=true then some (.str (if jP a b=true then b else a))else none
 |_=>none
def tO(td:TD)(aS:TypeId->Option TI)(l c:AV)(nx:Nat):Option bY:=
 match td with
 | .slice e=>match aS e,wW l,wW c with
  |some te,some n,some n' =>
   if n' =n/\0<te.size/\qg n te.bytes=true then some (.row nx (List.replicate n te.zero).length 0 (List.replicate n te.zero).length,[(nx,.row false te.size (List.replicate n te.zero))],nx+1)else none
  |_,_,_=>none
 |_=>none
def AV.refs:AV->List Nat
 | .ptr β _| .yT β _ _ _| .row β _ _ _| .map β=>[β]
 | .agg c=>mc c
 | .xS c=>mc c
 | .lr _ a b=>mc a++mc b
 |_=>[]
where mc:List AV->List Nat
 |[]=>[]
 |v::r=>v.refs++mc r
def AV.rows:AV->List Nat
 | .row β _ _ _=>[β]
 | .agg c=>l9 c
 | .xS c=>l9 c
 |_=>[]
where l9:List AV->List Nat
 |[]=>[]
 |v::r=>v.rows++l9 r
def AV.vJ(β:Nat)(qq:Bool)(sz:Nat)(es:List (List PV)):AV->AV
 | .row β' zF off n=>if β' =β/\zF=es.length then .pv (Ck qq sz ((es.drop off).take n))else .row β' zF off n
 | .agg c=>ZS (pA c)
 | .xS c=> .xS (pA c)
 | .lr f a b=> .lr f (pA a) (pA b)
 |v=>v
where pA:List AV->List AV
 |[]=>[]
 |v::r=>AV.vJ β qq sz es v::pA r
def qD.vJ(β:Nat)(qq:Bool)(sz:Nat)(es:List (List PV)):qD->qD
 | .box c=> .box (AV.vJ.pA β qq sz es c)
 | .yq PE eh=> .yq PE (eh.map (AV.vJ.pA β qq sz es))
 |b=>b
def freeze(β:Nat)(s:St):St:=
 match s.heap.get β with
 |some (.row qq sz es)=>
  { s with env:=s.env.map (fun (t,v)=>(t,v.vJ β qq sz es)),heap:=qn.put (s.heap.map fun(i,b)=>(i,b.vJ β qq sz es)) β .xf }
 |some (.jI qq _ es none)=>
  { s with env:=s.env.map (fun (t,v)=>(t,v.vJ β qq 1 (es.map fun p=>[p]))),heap:=qn.put (s.heap.map fun(i,b)=>(i,b.vJ β qq 1 (es.map fun p=>[p]))) β .xf }
 |_=>s
def ud:List Nat->St->St
 |[],s=>s
 |β::r,s=>ud r (freeze β s)
def rH(es:List (List PV)):Bool:=es.all fun e=>e.all PV.Km
def Yj(qq:Bool)(d:Nat)(ds:List Nat)(es:List (List PV)):Option qD:=
 match ds with
 |[]=>some (.row qq d es)
 |_::_=>if d=1 then some (.jI qq ds es.flatten none)else none
def Yl(H:qn)(nx β i:Nat):Option (qn×Nat×Nat):=
 match H.get β with
 |some (.jI false fx es none)=>match fx with
  |d::ds=>match es[i]? with
   |some (.sl qq _ eh)=>match Yj qq d ds eh with
    |some b=>some (qn.put (qn.put H β (.jI false (d::ds) es (some (i,nx,eh.length)))) nx b,nx+1,nx)
    |none=>none
   |_=>none
  |[]=>none
 |some (.jI false _ _ (some x))=>if x.1=i then some (H,nx,x.2.1)else none
 |_=>none
def sR(H:qn)(nx β:Nat):List Nat->qn×Nat
 |[]=>(H,nx)
 |i::r=>match Yl H nx β i with
  |some (H',cM,γ)=>sR H' cM γ r
  |none=>(H,nx)
def Qy(d:Nat)(ds:List Nat)(zF:Nat):qD->Option PV
 | .row qq sz es=>match ds with
  |[]=>if zF=es.length/\(qq=true\/sz=d)/\rH es=true then some (.sl qq (zC d es) es)else none
  |_::_=>none
 | .jI qq Ta es none=>match ds with
  |[]=>none
  |_::_=>if Ta=ds/\d=1/\zF=es.length then some (.sl qq (zC d (es.map fun p=>[p])) (es.map fun p=>[p]))else none
 |_=>none
def Vp(H:qn)(β:Nat):qn:=
 match H.get β with
 |some (.jI false (d::ds) es (some (i,γ,zF)))=>match H.get γ with
  |some b=>match Qy d ds zF b with
   |some p=>qn.put (qn.put H β (.jI false (d::ds) (es.set i p) none)) γ .xf
   |none=>H
  |none=>H
 |_=>H
def Kc:Nat->qn->Nat->qn
 |0,H,_=>H
 |n+1,H,β=>match H.get β with
  |some (.jI _ _ _ (some x))=>Vp (Kc n H x.2.1) β
  |_=>H
def gr(s:St)(t:Nat):AV:=
 if t<1000 then s.env.get t else match s.env.get (t % 1000)with
  | .ptr β o=>match s.heap.get β with
   |some (.box c)=>match c[o+(t / 1000-1)]? with|some v=>v|none=> .undef
   |_=> .undef
  |_=> .undef
def Pu(s:St):List Nat->Option (List Nat)
 |[]=>some []
 |t::r=>match wW (gr s t),Pu s r with
  |some n,some l=>some (n::l)
  |_,_=>none
def ov(s:St)(t:Nat)(v:AV):St:=
 if t<1000 then{ s with env:=(t,v)::s.env }else match s.env.get (t % 1000)with
  | .ptr β o=>match s.heap.get β with
   |some (.box c)=>if o+(t / 1000-1)<c.length then{ s with heap:=qn.put s.heap β (.box (c.set (o+(t / 1000-1)) v)) }else s
   |_=>s
  |_=>s
def Jp(n:Nat):qD->Option (Nat×qD)
 | .row false sz es=>if n<=es.length then some (es.length,.row false sz (es.take n))else none
 | .jI qq fx es none=>if n<=es.length then some (es.length,.jI qq fx (es.take n) none)else none
 |_=>none
def oo:List Nat->qD
 |[]=> .row true 0 []
 |d::ds=> .jI true (d::ds) [] none
def XE(s:St):AV->List Nat
 | .ptr β _=>match s.heap.get β with
  |some (.box c)=>AV.rows.l9 c
  |_=>[]
 |v=>v.rows
def W4(c:S0)(s:St):St:=
 match c with
 | .focus t is=>match gr s t,Pu s is with
  | .row β _ 0 _,some l=>{ s with heap:=(sR s.heap s.nx β l).1,nx:=(sR s.heap s.nx β l).2 }
  |_,_=>s
 | .pack t=>match gr s t with
  | .row β _ _ _=>{ s with heap:=Kc 4 s.heap β }
  |_=>s
 | .cut t=>match gr s t with
  | .row β zF 0 n=>match s.heap.get β with
   |some b=>match Jp n b with
    |some (l,y)=>if zF=l then ov { s with heap:=qn.put (qn.put s.heap β .xf) s.nx y,nx:=s.nx+1 } t (.row s.nx n 0 n)else s
    |none=>s
   |none=>s
  |_=>s
 | .prom t fx=>match gr s t with
  | .pv (.sl true _ [])=>ov { s with heap:=qn.put s.heap s.nx (oo fx),nx:=s.nx+1 } t (.row s.nx 0 0 0)
  |_=>s
 | .HX t=>ud (XE s (gr s t)) s
def mh:List S0->St->St
 |[],s=>s
 |c::r,s=>mh r (W4 c s)
inductive Ex where
 |normal
 |ret
 |exit (id:Nat)
 deriving DecidableEq,Inhabited
structure zS where
 call:FuncId->List AV->qn->Option (AV×qn)
 loop:FuncId->Nat->St->Option (Ex×St)
def AV.rF(g:Nat->Nat):AV->AV
 | .ptr β o=> .ptr (g β) o
 | .yT β v i o=> .yT (g β) v i o
 | .row β v off n=> .row (g β) v off n
 | .map β=> .map (g β)
 | .agg c=> .agg (iV g c)
 | .xS c=> .xS (iV g c)
 | .lr f a b=> .lr f (iV g a) (iV g b)
 |v=>v
where iV (g:Nat->Nat):List AV->List AV
 |[]=>[]
 |v::r=>AV.rF g v::iV g r
def qD.rF(g:Nat->Nat):qD->qD
 | .jI qq fx es i6=> .jI qq fx es (i6.map fun x=>(x.1,g x.2.1,x.2.2))
 | .box c=> .box (AV.rF.iV g c)
 | .yq sz es=> .yq sz (es.map (AV.rF.iV g))
 |b=>b
def qD.refs:qD->List Nat
 | .jI _ _ _ i6=>match i6 with|some x=>[x.2.1]|none=>[]
 | .box c=>AV.refs.mc c
 | .yq _ es=>es.flatMap AV.refs.mc
 |_=>[]
def pos:List Nat->Nat->Nat
 |[],_=>0
 |β::r,x=>if β=x then 0 else pos r x+1
def K0:List Nat->Nat->Bool
 |[],_=>false
 |β::r,x=>if β=x then true else K0 r x
def Up:List Nat->List Nat->Bool
 |[],_=>true
 |x::r,L=>K0 L x&&Up r L
def tC(H:qn)(β:Nat):qD:=match H.get β with|some b=>b|none=> .xf
def bE(H:qn):Nat->List Nat->List Nat->List Nat
 |0,_,d=>d
 |_+1,[],d=>d
 |n+1,β::r,d=>if K0 d β then bE H n r d else bE H n (r++(tC H β).refs) (d++[β])
def mo(H:qn)(L:List Nat):List Nat->Bool
 |[]=>true
 |β::r=>(match H.get β with|some b=>Up b.refs L|none=>false)&&mo H L r
def pick(H:qn)(g:Nat->Nat):Nat->List Nat->qn
 |_,[]=>[]
 |i,β::r=>(i,(tC H β).rF g)::pick H g (i+1) r
def tv(H:qn)(d:List Nat)(roots:List Nat):Option (List Nat×qn):=
 match roots,d with
 |[],[]=>some ([],[])
 |roots,d=>
  let L:=bE H 400 (roots++d.flatMap fun β=>(tC H β).refs) d
  if Up roots L&&mo H L L then some (L,pick H (pos L) 0 L)else none
def qS:List (Nat×qD)->qn->qn
 |[],H=>H
 |(i,b)::r,H=>qS r (qn.put H i b)
def xO(L:List Nat)(nx:Nat)(j:Nat):Nat:=match L[j]? with|some β=>β|none=>nx+(j-L.length)
def vj(g:Nat->Nat):qn->List (Nat×qD)
 |[]=>[]
 |(i,b)::r=>(g i,b.rF g)::vj g r
def yV:Nat->qn->Bool
 |_,[]=>true
 |i,(j,_)::r=>decide (j=i)&&yV (i+1) r
def fP(O:zS)(f:FuncId)(args:List AV)(H:qn)(nx:Nat):Option bY:=
 match tv H [] (AV.refs.mc args)with
 |none=>none
 |some (L,H0)=>
  match O.call f (AV.rF.iV (pos L) args) H0 with
  |none=>none
  |some (v,H')=>if yV 0 H' =true then some (v.rF (xO L nx),vj (xO L nx) H',nx+(H'.length-L.length))else none
def LC:Option bY->Option bY->Option bY
 |some r,_=>some r
 |none,y=>y
def pH(G:GP)(b:Builtin)(rJ:List TypeId)(args:List AV)(H:qn)(nx:Nat):Option bY:=
 match b,rJ,args with
 | .len,t::_,[x]=>match G.ti t with
  |some ti=>if Qp ti.td x=true then match Hm x H with|some n=>some (.pv (.int .i64 n),[],nx)|none=>none else none
  |none=>none
 | .unsafeSliceData,_,[x]=>mK x H nx
 | .unsafeString,tp::_,[p,x]=>match G.ti tp with
  |some ti=>match ti.pe with
   |some el=>match G.ti el with|some tel=>if tel.size=1 then uw el p x H nx else none|none=>none
   |none=>none
  |none=>none
 | .max,_,l=>match Ac true l with|some p=>some (.pv p,[],nx)|none=>none
 | .min,_,l=>match Ac false l with|some p=>some (.pv p,[],nx)|none=>none
 | .append,ts::tx::_,[s,x]=>match G.ti ts,G.ti tx with
  |some ti,some eK=>match ti.td,eK.td with
   | .slice e,.slice _=>match G.ti e with|some te=>LC (ua te s x H nx) (LC (uU e te s x H nx) (bA te s x H nx))|none=>none
   | .slice e,.string=>match G.ti e with|some te=>LC (ua te s x H nx) (LC (uU e te s x H nx) (bA te s x H nx))|none=>none
   |_,_=>none
  |_,_=>none
 | .copy,ts::_,[s,x]=>match G.ti ts with
  |some ti=>match ti.td with
   | .slice e=>match G.ti e with|some te=>Q4 te s x H nx|none=>none
   |_=>none
  |none=>none
 | .delete,tm::_,[m,k]=>match G.ti tm with
  |some ti=>match ti.td with
   | .map tk _=>match G.ti tk with
    |some tk=>match rC tk m k H with|some ws=>some (.xS [],ws,nx)|none=>none
    |none=>none
   |_=>none
  |none=>none
 |_,_,_=>none
def rW(G:GP)(t:TypeId):Option (TI×TI):=
 match G.ti t with
 |some ti=>match ti.td with
  | .map k e=>match G.ti k,G.ti e with
   |some tk,some te=>some (tk,te)
   |_,_=>none
  |_=>none
 |none=>none
def nf(ws:Option (List (Nat×qD)))(nx:Nat):Option bY:=match ws with|some ws=>some (.xS [],ws,nx)|none=>none
def gf(v:Option AV)(nx:Nat):Option bY:=match v with|some v=>some (v,[],nx)|none=>none
def X0(v:Option PV)(nx:Nat):Option bY:=match v with|some v=>some (.pv v,[],nx)|none=>none
def isBytes(G:GP)(t:TypeId):Bool:=
 match G.ti t with
 |some ti=>match ti.td with
  | .slice e=>match G.ti e with
   |some te=>match te.td with
    | .int .u8=>true
    |_=>false
   |none=>false
  |_=>false
 |none=>false
def Q3(G:GP)(t:TypeId)(ti:TI)(nx:Nat):Option bY:=none
def mV(G:GP)(t:TypeId)(x:AV)(H:qn)(nx:Nat):Option bY:=none
def ip(G:GP)(t:TypeId)(m k x:AV)(H:qn)(nx:Nat):Option bY:=
 match rW G t with
 |some (tk,te)=>if x.slc=true then nf (cz tk m k x H) nx else none
 |none=>none
def aBox(HX:Bool)(c:List AV)(nx:Nat):Option bY:=
 if HX=true then match iq c with|some l=>some (.pv (.rp l),[],nx)|none=>none else some (.ptr nx 0,[(nx,.box c)],nx+1)
def ni(G:GP)(O:zS)(o:Op)(E:vF)(H:qn)(nx:Nat):Option bY:=
 match o with
 | .move x=>some (ev E x,[],nx)
 | .assign x=>some (ev E x,[],nx)
 | .pick c a b=>match ev E c with| .pv (.bool t)=>some (if t then ev E a else ev E b,[],nx)|_=>none
 | .alloc t=>match G.ti t with|some ti=>if G.DZ t=true then Q3 G t ti nx else some (.ptr nx 0,[(nx,.box (ti.zero.map .pv))],nx+1)|none=>none
 | .box t x=>if(ev E x).Bu=true then aBox (G.HX t) (ev E x).cells nx else none
 | .build t parts=>match G.ti t with|some ti=>gf (J1 ti G.ti (ev E) parts.toList) nx|none=>none
 | .buildSlice t len parts=>match G.ti t with
  |some ti=>match ti.td with
   | .slice e=>match G.ti e with
    |some te=>if 0<te.size/\len*te.size<=2^24 then if G.DZ t=true then(match mq te.size (ev E) parts.toList (List.replicate len (te.zero.map .pv))with
     |some es=>some (.row nx es.length 0 es.length,[(nx,.yq te.size es)],nx+1)
     |none=>none)else match pL te.size (ev E) parts.toList (List.replicate len te.zero)with
     |some es=>some (.row nx es.length 0 es.length,[(nx,.row false te.size es)],nx+1)
     |none=>none
     else none
    |none=>none
   |_=>none
  |none=>none
 | .load t a=>match G.ti t with|some ti=>gf (oP ti (ev E a) H) nx|none=>none
 | .store t a x=>match G.ti t with|some ti=>nf (e9 ti (ev E a) (ev E x) H) nx|none=>none
 | .nilCheck x=>match ev E x with
  | .ptr β o=>some (.ptr β o,[],nx)
  | .mS c o=>some (.mS c o,[],nx)
  | .pv (.rp c)=>some (.pv (.rp c),[],nx)
  | .yT β v i o=>some (.yT β v i o,[],nx)
  | .pv (.fn f)=>some (.pv (.fn f),[],nx)
  | .lr f a b=>some (.lr f a b,[],nx)
  |_=>none
 | .binOp op t x y _=>match G.ti t with|some ti=>X0 (Nj G.ti op ti (ev E x) (ev E y) H) nx|none=>none
 | .unOp op _ x=>X0 (aUn op (ev E x)) nx
 | .convert s d x=>if s=d then mV G s (ev E x) H nx else match G.ti s,G.ti d with|some ts,some td=>pI ts.td td.td G.ti (ev E x) H nx|_,_=>none
 | .makeFunc (.func f) a b=>some (match a.toList,b.toList with|[],[]=> .pv (.fn f)|a,b=> .lr f (a.map (ev E)) (b.map (ev E)),[],nx)
 | .makeMap t none=>some (.map nx,[(nx,.map [] 0)],nx+1)
 | .slice t x lo hi mx=>match G.ti t with|some ti=>gf (fu ti.td G.ti (ev E) (ev E x) lo hi mx H) nx|none=>none
 | .fieldAddr t x f=>match G.ti t with|some ti=>gf (e8 ti.td (ev E x) f) nx|none=>none
 | .field t x f=>match G.ti t with
  |some ti=>match ti.td with
   | .struct fs=>match fs[f]? with
    |some (off,_,tf)=>match G.ti tf with|some fN=>gf (Hr fN (ev E x) off) nx|none=>none
    |none=>none
   |_=>none
  |none=>none
 | .indexAddr t x i=>match G.ti t with|some ti=>gf (mJ ti.td G.ti (ev E x) (ev E i) H) nx|none=>none
 | .index t x i=>match G.ti t with
  |some ti=>match ti.td,ev E x,wW (ev E i)with
   | .string,.pv (.str s),some k=>match s[k]? with|some b=>some (.pv (.int .u8 b.toNat),[],nx)|none=>none
   | .array len e,x,some k=>if k<len then match G.ti e with|some te=>gf (Hr te x (k*te.size)) nx|none=>none else none
   |_,_,_=>none
  |none=>none
 | .lookup t m k ok=>match rW G t with|some (tk,te)=>gf (if G.DZ t=true then ik tk te (ev E m) (ev E k) ok H else dN tk te (ev E m) (ev E k) ok H) nx|none=>none
 | .mapUpdate t m k x=>if G.DZ t=true then ip G t (ev E m) (ev E k) (ev E x) H nx else match rW G t,Kf (ev E x)with
  |some (tk,te),some p=>if p.cells.length=te.size then nf (pJ tk (ev E m) (ev E k) p H) nx else none
  |_,_=>none
 | .insert t m k x=>match rW G t,Kf (ev E x)with
  |some (tk,te),some p=>if p.cells.length=te.size then nf (pJ tk (ev E m) (ev E k) p H) nx else none
  |_,_=>none
 | .mapEntry t m k=>match rW G t with
  |some (tk,te)=>match ij tk te (ev E m) (ev E k) H with|some (v,ws)=>some (v,ws,nx)|none=>none
  |none=>none
 | .entryStore _ m st x=>match Kf (ev E x)with|some p=>nf (gj (ev E m) (ev E st) p H) nx|none=>none
 | .extract t i=>match ev E t with
  | .xS l=>match l[i]? with|some v=>some (v,[],nx)|none=>none
  |_=>none
 | .call { callee:= .builtin b,args,argTypes }=>pH G b argTypes.toList (args.toList.map (ev E)) H nx
 | .call { callee:= .value f,args,.. }=>match ev E f with
  | .pv (.fn f)=>fP O f (args.toList.map (ev E)) H nx
  | .lr f a b=>fP O f (a++args.toList.map (ev E)++b) H nx
  |_=>none
 | .makeSlice t l c=>match G.ti t with|some ti=>tO ti.td G.ti (ev E l) (ev E c) nx|none=>none
 |_=>none
def GC(G:GP)(o:Op)(E:vF):List Nat:=
 match o with
 | .store _ a x=>match ev E a with| .yT _ _ _ _=>(ev E x).rows|_=>[]
 | .buildSlice t _ parts=>if G.DZ t then[]else AV.rows.l9 (parts.toList.map fun x=>ev E x.2)
 | .mapUpdate _ _ _ x=>(ev E x).rows
 | .insert _ _ _ x=>(ev E x).rows
 | .entryStore _ _ _ x=>(ev E x).rows
 | .call { callee:= .value f,args,.. }=>match ev E f with
  | .pv (.fn f)=>if G.owned f then[]else AV.rows.l9 (args.toList.map (ev E))
  | .lr f _ _=>if G.owned f then[]else AV.rows.l9 (args.toList.map (ev E))
  |_=>[]
 |_=>[]
def vM(all:List Oper)(o:Oper)(E:vF):Option Bool:=
 match o.guard with
 |none=>some true
 |some (j,want)=>match all[j]? with
  |some oj=>match oj.dst with
   |some d=>match E.get d with
    | .pv (.bool b)=>some (b==want)
    | .xS []=>some false
    |_=>none
   |none=>some false
  |none=>some false
def cP(d:Option Tmp)(v:AV)(E:vF):vF:=match d with|some d=>(d,v)::E|none=>E
def QK(G:GP)(O:zS)(o:Oper)(s:St):Option St:=
 match ni G O o.op s.env s.heap s.nx with
 |some (v,ws,nx)=>some { env:=cP o.dst v s.env,heap:=qS ws s.heap,nx:=nx }
 |none=>none
def Z0(G:GP)(O:zS)(all:List Oper):List Oper->St->Option St
 |[],s=>some s
 |o::r,s=>
  match vM all o s.env with
  |some true=>match QK G O o (ud (GC G o.op s.env) s)with
   |some s' =>Z0 G O all r s'
   |none=>none
  |some false=>Z0 G O all r { s with env:=cP o.dst (.xS []) s.env }
  |none=>none
def mG(o:Op)(E:vF)(H:qn):List Nat:=
 match o with
 | .load _ a=>(ev E a).refs
 | .store _ a _=>(ev E a).refs
 | .binOp _ _ x y _=>(ev E x).refs++(ev E y).refs
 | .convert _ _ x=>(ev E x).refs
 | .slice _ x _ _ _=>(ev E x).refs
 | .indexAddr _ x _=>(ev E x).refs
 | .lookup _ m _ _=>(ev E m).refs
 | .mapUpdate _ m _ _=>(ev E m).refs
 | .insert _ m _ _=>(ev E m).refs
 | .mapEntry _ m _=>(ev E m).refs
 | .entryStore _ m _ _=>(ev E m).refs
 | .call { callee:= .builtin _,args,.. }=>AV.refs.mc (args.toList.map (ev E))
 | .call { callee:= .value f,args,.. }=>match ev E f with
  | .pv (.fn _)=>bE H 400 (AV.refs.mc (args.toList.map (ev E))) []
  | .lr _ a b=>bE H 400 (AV.refs.mc (a++args.toList.map (ev E)++b)) []
  |_=>[]
 |_=>[]
def YG(ms:List Nat)(o:Oper):Nat:=o.after.toList.foldl (fun m e=>if Region.binds .any e=true then m ||| (1 <<< e.on) ||| ms.getD e.on 0 else m) 0
def wb(ms:List Nat):List Oper->List Nat
 |[]=>ms
 |o::r=>wb (ms++[YG ms o]) r
def ordered(ms:List Nat)(i j:Nat):Bool:=(ms.getD j 0).testBit i
def Xh:List Nat->List Nat->Bool
 |[],_=>true
 |x::r,L=> !K0 L x&&Xh r L
def oa(ms:List Nat)(j:Nat)(rd wr:List Nat):List (Nat×List Nat×List Nat)->Bool
 |[]=>true
 |(i,rdi,wri)::r=>(ordered ms i j || (Xh wri rd&&Xh wri wr&&Xh rdi wr))&&oa ms j rd wr r
def nk(ms:List Nat):List (Nat×List Nat×List Nat)->Bool
 |[]=>true
 |(j,rd,wr)::r=>oa ms j rd wr r&&nk ms r
mutual
def PV.ka:PV->PV->Bool
 | .bool a,.bool b=>a==b
 | .int k a,.int l b=>decide (k=l)&&decide (a=b)
 | .str a,.str b=>decide (a=b)
 | .agg a,.agg b=>PV.dD a b
 | .sl n z a,.sl m y b=>n==m&&decide (z=y)&&PV.ry a b
 | .jk,.jk=>true
 | .rY,.rY=>true
 | .gG,.gG=>true
 | .dU,.dU=>true
 | .fn f,.fn g=>decide (f=g)
 | .rp a,.rp b=>PV.dD a b
 |_,_=>false
def PV.dD:List PV->List PV->Bool
 |[],[]=>true
 |x::r,y::q=>PV.ka x y&&PV.dD r q
 |_,_=>false
def PV.ry:List (List PV)->List (List PV)->Bool
 |[],[]=>true
 |x::r,y::q=>PV.dD x y&&PV.ry r q
 |_,_=>false
end
def AV.ka:AV->AV->Bool
 | .pv a,.pv b=>PV.ka a b
 | .ptr b o,.ptr c q=>decide (b=c)&&decide (o=q)
 | .row b v o n,.row c w q m=>decide (b=c)&&decide (v=w)&&decide (o=q)&&decide (n=m)
 | .aU,.aU=>true
 | .map b,.map c=>decide (b=c)
 |_,_=>false
def AV.dD:List AV->List AV->Bool
 |[],[]=>true
 |x::r,y::q=>AV.ka x y&&AV.dD r q
 |_,_=>false
def AV.ry:List (List AV)->List (List AV)->Bool
 |[],[]=>true
 |x::r,y::q=>AV.dD x y&&AV.ry r q
 |_,_=>false
def qD.ka:qD->qD->Bool
 | .box a,.box b=>AV.dD a b
 | .row n z a,.row m y b=>n==m&&decide (z=y)&&PV.ry a b
 | .yq z a,.yq y b=>decide (z=y)&&AV.ry a b
 | .xf,.xf=>true
 |_,_=>false
def Mj(H:qn)(β:Nat)(b:qD):Bool:=match H.get β with|some c=>qD.ka c b|none=>false
def trim(rd:List Nat):qn->List (Nat×qD)->List (Nat×qD)
 |_,[]=>[]
 |H,(β,b)::r=>if K0 rd β&&Mj H β b then trim rd H r else(β,b)::trim rd (H.put β b) r
def fM(tm:Bool)(rd:List Nat)(H:qn)(ws:List (Nat×qD)):List (Nat×qD):=match tm with|true=>trim rd H ws|false=>ws
def o4:List Nat->Bool
 |[]=>false
 |x::r=>x==999999 || o4 r
def cB(G:GP)(O:zS)(all:List Oper)(tm:Bool):Nat->List Oper->St->List (Nat×List Nat×List Nat)->Option St
 |_,[],s,log=>if nk (wb [] all) log=true then some s else none
 |i,o::r,s,log=>
  match vM all o s.env with
  |some true=>match ni G O o.op s.env s.heap s.nx with
   |some (v,ws,nx)=>cB G O all tm (i+1) r ⟨cP o.dst v s.env,qS (fM tm (mG o.op s.env s.heap) s.heap ws) s.heap,nx⟩ ((i,mG o.op s.env s.heap,(fM tm (mG o.op s.env s.heap) s.heap ws).map (·.1))::log)
   |none=>none
  |some false=>cB G O all tm (i+1) r { s with env:=cP o.dst (.xS []) s.env } log
  |none=>none
def restrict(E:vF):List Nat->vF
 |[]=>[]
 |t::r=>(t,E.get t)::restrict E r
def setEnv:vF->Nat->AV->vF
 |[],n,x=>[(n,x)]
 |(i,v)::r,n,x=>if i=n then(i,x)::r else(i,v)::setEnv r n x
def jQ:List Nat->St->St
 |[],s=>s
 |t::r,s=>match s.env.get t with
  | .pv (.sl true _ [])=>jQ r { env:=setEnv s.env t (.row s.nx 0 0 0),heap:=qn.put s.heap s.nx (.row true 0 []),nx:=s.nx+1 }
  |_=>jQ r s
def zL:List (Nat×Nat)->St->St
 |[],s=>s
 |(t,k)::r,s=>match s.env.get t with
  | .ptr β o=>match s.heap.get β with
   |some (.box c)=>match c[o+k]? with
    |some (.pv (.sl true _ []))=>
     zL r { env:=s.env,heap:=qn.put (qn.put s.heap s.nx (.row true 0 [])) β (.box (c.set (o+k) (.row s.nx 0 0 0))),nx:=s.nx+1 }
    |_=>zL r s
   |_=>zL r s
  |_=>zL r s
def TW(H:qn):AV->List Nat
 | .ptr β _=>match H.get β with
  |some (.box c)=>AV.rows.l9 c
  |_=>[]
 |v=>v.rows
def HC(H:qn)(k:Nat):AV->List Nat
 | .ptr β o=>match H.get β with
  |some (.box c)=>match c[o+k]? with|some v=>v.rows|none=>[]
  |_=>[]
 |_=>[]
def sJ(E:vF)(H:qn):List Nat->List Nat
 |[]=>[]
 |t::r=>(if t<1000 then TW H (E.get t)else HC H (t / 1000-1) (E.get (t % 1000)))++sJ E H r
def enter(sp:nV)(s:St):St:=
 let s1:=zL sp.zL (jQ sp.jQ s)
 let s2:=ud (sJ s1.env s1.heap sp.freeze) s1
 { s2 with env:=restrict s2.env sp.YF }
def rL(n:Nat):List Nat->Bool
 |[]=>true
 |x::r=>decide (x<n)&&rL n r
def vF.below(n:Nat):vF->Bool
 |[]=>true
 |(_,v)::r=>rL n v.refs&&vF.below n r
def qn.upto(n:Nat):qn->qn
 |[]=>[]
 |(i,b)::r=>if i<n then(i,b)::qn.upto n r else qn.upto n r
def qn.below(n:Nat):qn->Bool
 |[]=>true
 |(_,b)::r=>rL n b.refs&&qn.below n r
def narrow(Kq:List Nat)(n:Nat)(s:St):Option St:=
 let E:=restrict s.env Kq
 let H:=qn.upto n s.heap
 if vF.below n E&&qn.below n H then some ⟨E,H,n⟩else none
def a8(Kq:List Nat)(n:Nat)(s:St):St:=
 match narrow Kq n s with
 |some s' =>s'
 |none=>{ s with env:=restrict s.env Kq }
def Pe(g:Nat->Nat):vF->vF
 |[]=>[]
 |(t,v)::r=>(t,v.rF g)::Pe g r
def VF:vF->List Nat
 |[]=>[]
 |(_,v)::r=>v.refs++VF r
def canon(Kq:List Nat)(n:Nat)(s:St):Option St:=
 match tv s.heap (List.range n) (VF (restrict s.env Kq))with
 |some (L,H')=>some ⟨Pe (pos L) (restrict s.env Kq),H',H'.length⟩
 |none=>none
def fA(sp:nV)(s:St):Option St:=
 if sp.own=1000 then some (enter sp s)else
 match sp.own with
 |0=>some (enter sp s)
 |k+1=>match canon sp.YF s.nx (enter sp s)with
  |some s1=>if s1.nx=s.nx+(k+1)then some s1 else none
  |none=>none
def Qo(sp:nV)(n:Nat)(s:St):Option St:=if n<=s.nx then some { s with env:=restrict s.env sp.YF }else none
def again(sp:nV)(n:Nat)(s' :St):Option St:=
 if sp.own=1000 then Qo sp n (zL sp.zL (jQ sp.jQ s'))else
 match sp.own with
 |0=>narrow sp.YF n s'
 |k+1=>match canon sp.YF (n-(k+1)) (zL sp.zL (jQ sp.jQ s'))with
  |some s1=>if s1.nx=n then some s1 else none
  |none=>none
def leave(sp:nV)(n:Nat)(s' :St):Option St:=
 if sp.own=1000 then some { s' with env:=restrict s'.env sp.out }else
 match sp.own with
 |0=>some (a8 sp.out n s')
 |k+1=>canon sp.out (n-(k+1)) s'
def left(ex:Ex):Option St->Option (Ex×St)
 |some s=>some (ex,s)
 |none=>none
def zv:Code->Nat->Option Code
 | .seq a b,i=>match zv a i with|some c=>some c|none=>zv b i
 | .block id (.loop c),i=>if id=i then some c else zv c i
 | .block _ c,i=>zv c i
 | .cond _ a b,i=>match zv a i with|some c=>some c|none=>zv b i
 | .loop c,i=>zv c i
 |_,_=>none
def pres(G:GP)(f:FuncId)(id:Nat)(s:St):St:=ud (sJ s.env s.heap (G.pre f id)) s
def exec(G:GP)(O:zS)(f:FuncId):Code->St->Option (Ex×St)
 | .skip,s=>some (.normal,s)
 | .region id ops false,s=>match Z0 G O ops.toList ops.toList (mh (G.cmd f (2*id)) s)with|some s' =>some (.normal,mh (G.cmd f (2*id+1)) s')|none=>none
 | .region id ops true,s=>match cB G O ops.toList (o4 (G.pre f id)) 0 ops.toList (pres G f id (mh (G.cmd f (2*id)) s)) []with|some s' =>some (.normal,mh (G.cmd f (2*id+1)) s')|none=>none
 | .seq a b,s=>match exec G O f a s with
  |some (.normal,s')=>exec G O f b s'
  |some (.ret,s')=>some (.ret,s')
  |some (.exit i,s')=>some (.exit i,s')
  |none=>none
 | .cond c t e,s=>match ev s.env c with
  | .pv (.bool b)=>match b with
   |true=>exec G O f t s
   |false=>exec G O f e s
  |_=>none
 | .block id (.loop _),s=>match fA (G.spec f id) s with
  |some s1=>O.loop f id s1
  |none=>none
 | .block id c,s=>match exec G O f c s with
  |some (.exit i,s')=>if i=id then some (.normal,s')else some (.exit i,s')
  |some (.normal,s')=>some (.normal,s')
  |some (.ret,s')=>some (.ret,s')
  |none=>none
 | .exit id,s=>some (.exit id,s)
 | .ret,s=>some (.ret,s)
 |_,_=>none
def nu(G:GP)(O:zS)(f:FuncId)(id:Nat)(s:St):Option (Ex×St):=
 match G.fn f with
 |none=>none
 |some fi=>match zv fi.body id with
  |none=>none
  |some c=>match exec G O f c s with
   |some (.normal,s')=>match again (G.spec f id) s.nx (ud (sJ s'.env s'.heap (G.spec f id).freeze) s')with
    |some Oz=>O.loop f id Oz
    |none=>none
   |some (.exit i,s')=>if i=id then left .normal (leave (G.spec f id) s.nx s')else left (.exit i) (leave (G.spec f id) s.nx s')
   |some (.ret,s')=>left .ret (leave (G.spec f id) s.nx s')
   |none=>none
def VJ(G:GP)(s:St):ResultVar->Option AV
 | .tmp t=>some (s.env.get t)
 | .cell a t=>match G.ti t with|some ti=>oP ti (s.env.get a) s.heap|none=>none
def dy(G:GP)(s:St):List ResultVar->Option (List AV)
 |[]=>some []
 |r::l=>match VJ G s r,dy G s l with
  |some v,some vs=>some (v::vs)
  |_,_=>none
def o5:List AV->AV
 |[v]=>v
 |l=> .xS l
def unz:AV->AV
 | .aU=> .pv (.sl false 0 [])
 |v=>v
def finish(m:Nat)(tB:Bool)(v:AV)(s:St):Option (AV×qn):=
 let s1:=if tB then{ s with env:=[(0,v)] }else ud v.rows { s with env:=[(0,v)] }
 let v1:=unz (s1.env.get 0)
 match tv s1.heap (List.range m) v1.refs with
 |some (L,H)=>some (v1.rF (pos L),H)
 |none=>none
def pK:Nat->List AV->vF
 |_,[]=>[]
 |i,v::r=>(i,v)::pK (i+1) r
def iW(G:GP)(O:zS)(f:FuncId)(args:List AV)(H:qn):Option (AV×qn):=
 match G.fn f with
 |none=>none
 |some fi=>if yV 0 H=true then match exec G O f fi.body ⟨pK 0 args,H,H.length⟩with
  |some (.exit _,_)=>none
  |some (_,s)=>match dy G (mh (G.cmd f 999999) s) fi.results with
   |some vs=>finish H.length (G.tB f) (o5 vs) (mh (G.cmd f 999999) s)
   |none=>none
  |none=>none
  else none
structure nJ where
 call:FuncId->Option (List AV->qn->Option (AV×qn))
def K9(G:GP)(S:nJ):Nat->zS
 |0=>⟨fun _ _ _=>none,fun _ _ _=>none⟩
 |n+1=>⟨fun f args H=>match S.call f with|some g=>g args H|none=>iW G (K9 G S n) f args H,fun f id s=>nu G (K9 G S n) f id s⟩
set_option linter.unusedSectionVars false
def PV.kv:PV->Bool
 | .agg _=>false
 |_=>true
def AV.kv:AV->Bool
 | .pv p=>p.kv
 | .agg _| .xS _| .undef=>false
 |_=>true
def s7:Value->Bool
 | .agg _| .tuple _=>false
 |_=>true
inductive Sk where
 |leaf
 |node (b cap:Nat) (ks:List Sk)
 deriving Inhabited
structure Pl where
 b:Nat
 cap:Nat
 ks:List Sk:=[]
def Pl.ka(p q:Pl):Prop:=p.b=q.b/\p.cap=q.cap
theorem Pl.ou(p:Pl):p.ka p:=⟨rfl,rfl⟩
theorem Pl.Pr{p q r:Pl}(h1:p.ka q)(h2:q.ka r):p.ka r:=⟨h1.1.trans h2.1,h1.2.trans h2.2⟩
def Sk.blocks:Sk->List Nat
 | .leaf=>[]
 | .node b _ ks=>b::ks.flatMap Sk.blocks
abbrev vG:=Nat->Pl
def wa(fz:Nat×Nat)(n:Nat):Prop:=fz.1<=fz.2/\ ∀i,i<n-> ¬(fz.1<=i/\i<fz.2)
inductive RP (w:World) (Im:Nat->Prop):PV->Value->Prop
 |bool (b:Bool):RP w Im (.bool b) (.bool b)
 |int (k:IntKind) (n:Int):RP w Im (.int k n) (.int k n)
 |str (l:List UInt8):RP w Im (.str l) (.string ⟨⟨l⟩⟩)
 |agg (c:List PV) (vs:List Value) (hl:c.length=vs.length) (hf: ∀p∈c,p.kv=true)
   (h: ∀(i:Nat) p v,c[i]? =some p->vs[i]? =some v->RP w Im p v):RP w Im (.agg c) (.agg ⟨vs⟩)
 |cK (sz:Nat):RP w Im (.sl true sz []) (.slice none 0 0)
 |sl (sz:Nat) (es:List (List PV)) (b off cap:Nat) (vs:Nat->Value) (oJ:es≠[]->Im b) (Xk:es.length<=cap)
   (bO: ∀e∈es,e.length=sz) (hc: ∀i,i<es.length*sz->w.cell? ⟨b,off+i,none⟩=some (vs i))
   (hf: ∀(i:Nat) e(j:Nat) p,es[i]? =some e->e[j]? =some p->p.kv=true)
   (h: ∀(i:Nat) e(j:Nat) p,es[i]? =some e->e[j]? =some p->RP w Im p (vs (i*sz+j)))
   (sp:Option Nat) (Tr:es≠[]->sp=none):RP w Im (.sl false sz es) (.slice (some ⟨b,off,sp⟩) es.length cap)
 |jk:RP w Im .jk (.pointer none)
 |rY:RP w Im .rY .nilFunc
 |gG:RP w Im .gG (.map none)
 |dU:RP w Im .dU .nilIface
 |fn (f:FuncId):RP w Im (.fn f) (.func (.func f) #[] #[])
 |rp (c:List PV) (b off:Nat) (vs:Nat->Value) (oJ:Im b) (hc: ∀i,i<c.length->w.cell? ⟨b,off+i,none⟩=some (vs i))
   (hf: ∀p∈c,p.kv=true) (h: ∀(i:Nat) p,c[i]? =some p->RP w Im p (vs i)):RP w Im (.rp c) (.pointer (some ⟨b,off,none⟩))
inductive eX (w:World) (Im:Nat->Prop):List Nat->PV->Value->Sk->Prop
 |Km (p:PV) (v:Value) (hs:p.Km=true) (h:RP w Im p v):eX w Im [] p v .leaf
 |nil (d:Nat) (ds:List Nat):eX w Im (d::ds) (.sl true 0 []) (.slice none 0 0) .leaf
 |sl (d:Nat) (ds:List Nat) (es:List (List PV)) (b o cap:Nat) (ks:List Sk) (vs:Array Value) (elem:TypeId) (fz:Nat×Nat) (hb:w.heap[b]? =some (.cells vs elem fz)) (hfz:wa fz vs.size)
   (DT:vs.size=cap*d) (hd:0<d) (hle:es.length<=cap) (ho:0<cap->o=0) (rS: ∀e∈es,e.length=d) (G5:ks.length=es.flatten.length)
   (val:Nat->Value) (Xp: ∀i,i<es.flatten.length->vs[i]? =some (val i)) (h: ∀(i:Nat) p k,es.flatten[i]? =some p->ks[i]? =some k->eX w Im ds p (val i) k):
   eX w Im (d::ds) (.sl false (zC d es) es) (.slice (some ⟨b,o,none⟩) es.length cap) (.node b cap ks)
theorem RP.mk{w:World}{Im:Nat->Prop}{b:Bool}{sz:Nat}{es:List (List PV)}{v:Value}(h:RP w Im (.sl b sz es) v):RP w Im (Ck b sz es) v:=by
 cases es with
 |cons _ _=>exact h
 |nil=>cases h with
  |cK=>exact .cK 0
  |sl _ _ b off cap vs oJ Xk bO hc hf hh sp Tr=>exact .sl 0 [] b off cap vs (fun h=>absurd rfl h) (Nat.zero_le _) (by simp) (fun i xB=>by simp at xB) (by simp) (by simp) sp (fun h=>absurd rfl h)
def qD.EF:qD->Bool
 | .box _=>true
 |_=>false
inductive RA (w:World) (H:qn) (ι:vG) (Im:Nat->Prop):AV->Value->Prop
 |undef (v:Value):RA w H ι Im .undef v
 |pv (p:PV) (v:Value) (h:RP w Im p v):RA w H ι Im (.pv p) v
 |ptr (β o:Nat) (b:qD) (hb:H.get β=some b) (hk:b.EF=true):RA w H ι Im (.ptr β o) (.pointer (some ⟨(ι β).b,o,none⟩))
 |yT (β zF i o b' o' :Nat) (b:qD) (hb:H.get β=some b) (xU: ∀qq sz l,b.sh=some (qq,sz,l)->zF<=l)
   (h: ∀qq sz l,b.sh=some (qq,sz,l)->zF=l->qq=false->b' =(ι β).b/\o' =i*sz+o):
   RA w H ι Im (.yT β zF i o) (.pointer (some ⟨b',o',none⟩))
 |row (β zF off n:Nat) (v:Value) (b:qD) (ho:s7 v=true) (hb:H.get β=some b) (hk:b≠ .xf-> ∃qq sz l,b.sh=some (qq,sz,l))
   (xU: ∀qq sz l,b.sh=some (qq,sz,l)->zF<=l)
   (h: ∀qq sz l,b.sh=some (qq,sz,l)->zF=l->off+n<=l/\
    if qq=true then v= .slice none 0 0
    else ∃a,v= .slice (some a) n ((ι β).cap-off)/\a.spot=none/\a.block=(ι β).b/\(off<(ι β).cap->a.off=off*sz)):
   RA w H ι Im (.row β zF off n) v
 |mS (c:List PV) (o b off:Nat) (vs:Nat->Value) (oJ:Im b) (hc: ∀i,i<c.length->w.cell? ⟨b,off+i,none⟩=some (vs i))
   (hf: ∀p∈c,p.kv=true) (h: ∀(i:Nat) p,c[i]? =some p->RP w Im p (vs i)):
   RA w H ι Im (.mS c o) (.pointer (some ⟨b,off+o,none⟩))
 |aU (a:Addr):RA w H ι Im .aU (.slice (some a) 0 0)
 |map (β:Nat) (es:List (PV×PV×Nat)) (zI:Nat) (hb:H.get β=some (.map es zI)):RA w H ι Im (.map β) (.map (some (ι β).b))
 |lr (f:FuncId) (a b:List AV) (va vb:List Value) (Wa:a.length=va.length) (Tm:b.length=vb.length)
   (ha: ∀(i:Nat) x v,a[i]? =some x->va[i]? =some v->RA w H ι Im x v)
   (hb: ∀(i:Nat) x v,b[i]? =some x->vb[i]? =some v->RA w H ι Im x v):RA w H ι Im (.lr f a b) (.func (.func f) ⟨va⟩ ⟨vb⟩)
 |agg (c:List AV) (vs:List Value) (hl:c.length=vs.length) (hf: ∀x∈c,x.kv=true)
   (h: ∀(i:Nat) x v,c[i]? =some x->vs[i]? =some v->RA w H ι Im x v):RA w H ι Im (.agg c) (.agg ⟨vs⟩)
 |xS (c:List AV) (vs:List Value) (hl:c.length=vs.length)
   (h: ∀(i:Nat) x v,c[i]? =some x->vs[i]? =some v->RA w H ι Im x v):RA w H ι Im (.xS c) (.tuple ⟨vs⟩)
def qD.used:qD->Bool
 | .box _=>true
 | .row qq _ _=> !qq
 | .map _ _=>true
 | .yq _ _=>true
 | .jI qq _ _ _=> !qq
 | .xf=>false
def qD.Tx:qD->Bool
 | .jI _ _ _ _=>true
 |_=>false
def qD.vn(b:qD)(p:Pl)(x:Nat):Prop:=b.used=true/\(x=p.b\/b.Tx=true/\x∈p.ks.flatMap Sk.blocks)
def pF(w:World)(H:qn)(ι:vG)(Im:Nat->Prop)(β:Nat):qD->Prop
 | .box c=> ∃vs elem fz,w.heap[(ι β).b]? =some (.cells vs elem fz)/\wa fz vs.size/\c.length=vs.size/\
   (∀ x∈c,x.kv=true)/\ ∀(i:Nat) x v,c[i]? =some x->vs[i]? =some v->RA w H ι Im x v
 | .row true _ es=>es=[]
 | .row false sz es=> ∃vs elem fz,w.heap[(ι β).b]? =some (.cells vs elem fz)/\wa fz vs.size/\vs.size=(ι β).cap*sz/\0<sz/\
   es.length<=(ι β).cap/\(∀ e∈es,e.length=sz)/\(∀(i:Nat) e(j:Nat) p,es[i]? =some e->e[j]? =some p->p.kv=true)/\
   ∀(i:Nat) e(j:Nat) p,es[i]? =some e->e[j]? =some p-> ∃v,vs[i*sz+j]? =some v/\RP w Im p v
 | .map es zI=> ∃zO:List MapEntry,w.heap[(ι β).b]? =some (.map ⟨zO⟩ zI)/\es.length=zO.length/\
   ∀(i:Nat)(k x:PV)(born:Nat) e,es[i]? =some (k,x,born)->zO[i]? =some e->RP w Im k e.key/\RP w Im x e.val/\e.born=born
 | .yq sz es=> ∃vs elem fz,w.heap[(ι β).b]? =some (.cells vs elem fz)/\wa fz vs.size/\vs.size=(ι β).cap*sz/\0<sz/\
   es.length<=(ι β).cap/\(∀ e∈es,e.length=sz)/\(∀(i:Nat) e(j:Nat) x,es[i]? =some e->e[j]? =some x->x.kv=true)/\
   ∀(i:Nat) e(j:Nat) x,es[i]? =some e->e[j]? =some x-> ∃v,vs[i*sz+j]? =some v/\RA w H ι Im x v
 | .jI true _ es i6=>es=[]/\i6=none
 | .jI false ds es i6=> ∃vs elem fz,w.heap[(ι β).b]? =some (.cells vs elem fz)/\wa fz vs.size/\vs.size=(ι β).cap/\es.length<=(ι β).cap/\(ι β).ks.length=es.length/\
   ((ι β).b::(ι β).ks.flatMap Sk.blocks).Nodup/\(∀ x∈(ι β).ks.flatMap Sk.blocks,x<w.heap.size)/\(∀ j γ zF,i6=some (j,γ,zF)->j<es.length)/\
   ∀(i:Nat) p k,es[i]? =some p->(ι β).ks[i]? =some k-> ∃v,vs[i]? =some v/\
    ((∀ j γ zF,i6=some (j,γ,zF)->i≠j)->eX w Im ds p v k)/\(∀ γ zF,i6=some (i,γ,zF)->k= .leaf/\RA w H ι Im (.row γ zF 0 zF) v)
 | .xf=>True
class zN where
 ok:World->Prop
 on:Nat->Prop
 frame: ∀{w w' :World},ok w->(∀ b,on b->w'.heap[b]? =w.heap[b]?)->ok w'
instance(priority:=low) noGlobs:zN:=⟨fun _=>True,fun _=>False,fun _ _=>trivial⟩
structure qW [zN] (w:World) (H:qn) (ι:vG) (Im:Nat->Prop):Prop where
 mX: ∀β b,H.get β=some b->pF w H ι Im β b
 inj: ∀β β' b b' x,H.get β=some b->H.get β' =some b' ->b.vn (ι β) x->b'.vn (ι β') x->β=β'
 im: ∀b,Im b->b<w.heap.size
 KJ: ∀β b x,H.get β=some b->b.vn (ι β) x-> ¬Im x
 G0:zN.ok w
 W6: ∀b,zN.on b->Im b
theorem zN.go[zN]{w w' :World}{Im:Nat->Prop}(h:zN.ok w)(h2: ∀b,zN.on b->Im b)(hk: ∀b,Im b->w'.heap[b]? =w.heap[b]?):zN.ok w' :=zN.frame h fun b hb=>hk b (h2 b hb)
def xi(x y:qD)(p q:Pl):Prop:=
 match x.sh,y.sh with
 |some (qq,sz,l),some (pM,PE,l')=>l<=l' /\(l=l' ->qq=pM/\(qq=false->sz=PE/\p.ka q))
 |some _,none=>y= .xf
 |none,some _=>False
 |none,none=>match x,y with
  | .box _,.box _=>p=q
  | .map _ _,.map _ _=>p=q
  | .xf,.xf=>True
  |_,_=>False
theorem oc{x y:qD}{p q:Pl}{qq pM:Bool}{sz PE l l' :Nat}(hx:x.sh=some (qq,sz,l))(hy:y.sh=some (pM,PE,l')):
  xi x y p q=(l<=l' /\(l=l' ->qq=pM/\(qq=false->sz=PE/\p.ka q))):=by
 unfold xi;rw[hx,hy]
theorem oe{x y:qD}{p q:Pl}(h:xi x y p q){qq:Bool}{sz l:Nat}(hy:y.sh=some (qq,sz,l)): ∃ez sz0 l0,x.sh=some (ez,sz0,l0):=by
 cases hx:x.sh with
 |some q=>exact⟨_,_,_,rfl⟩
 |none=>
  unfold xi at h;rw[hx,hy]at h;exact(h:False).elim
theorem HL{x y:qD}{p q:Pl}(h:xi x y p q){qq:Bool}{sz l:Nat}(hx:x.sh=some (qq,sz,l)):y= .xf\/ ∃ez sz0 l0,y.sh=some (ez,sz0,l0):=by
 unfold xi at h;rw[hx]at h;cases hy:y.sh with
 |none=>
  rw[hy]at h;exact .inl h
 |some q=>exact .inr ⟨_,_,_,rfl⟩
structure w8 (w:World) (H:qn) (ι:vG) (Im:Nat->Prop) (w' :World) (H' :qn) (ι' :vG) (jA:Nat->Prop):Prop where
 comp: ∀β b,H.get β=some b-> ∃b',H'.get β=some b' /\xi b b' (ι β) (ι' β)
 im: ∀b,Im b->jA b
 mw: ∀b,jA b->Im b\/w.heap.size<=b\/ ∃β x,H.get β=some x/\x.vn (ι β) b
 bC: ∀β x z,H'.get β=some x->x.vn (ι' β) z->w.heap.size<=z\/ ∃β0 x0,H.get β0=some x0/\x0.vn (ι β0) z
 ka: ∀b,b<w.heap.size->(∀ β x,H.get β=some x-> ¬x.vn (ι β) b)->w'.heap[b]? =w.heap[b]?
 size:w.heap.size<=w'.heap.size
 io:w'.os=w.os/\w'.output=w.output
theorem vV(b:qD)(p:Pl):xi b b p p:=by
 unfold xi;cases h:b.sh with
 |some q=>exact⟨xJ _,fun _=>⟨rfl,fun _=>⟨rfl,p.ou⟩⟩⟩
 |none=>cases b<;>first|(simp only[qD.sh]at h;cases h;done)|rfl|exact trivial
theorem Q8{x y z:qD}{p q r:Pl}(h1:xi x y p q)(h2:xi y z q r):xi x z p r:=by
 have key: ∀{i1 i2 i3:Bool}{s1 s2 s3 l1 l2 l3:Nat},(l1<=l2/\(l1=l2->i1=i2/\(i1=false->s1=s2/\p.ka q)))->(l2<=l3/\(l2=l3->i2=i3/\(i2=false->s2=s3/\q.ka r)))->
   (l1<=l3/\(l1=l3->i1=i3/\(i1=false->s1=s3/\p.ka r))):=by
  intro i1 i2 i3 s1 s2 s3 l1 l2 l3 h1 h2;obtain⟨a1,b1⟩:=h1;obtain⟨a2,b2⟩:=h2;refine⟨Nat.le_trans a1 a2,fun e=>?_⟩;obtain⟨i1,j1⟩:=b1 (by omega);obtain⟨i2,j2⟩:=b2 (by omega);refine⟨i1.trans i2,fun hn=>?_⟩;obtain⟨k1,l1⟩:=j1 hn;obtain⟨k2,l2⟩:=j2 (i1 ▸ hn);exact⟨k1.trans k2,Pl.Pr l1 l2⟩
 unfold xi at h1 h2 |-;cases hx:x.sh with
 |some a=>
  obtain⟨i1,s1,l1⟩:=a;rw[hx]at h1;cases hy:y.sh with
  |some b=>
   obtain⟨i2,s2,l2⟩:=b;rw[hy]at h1 h2;cases hz:z.sh with
   |some c=>
    obtain⟨i3,s3,l3⟩:=c;rw[hz]at h2;exact key h1 h2
   |none=>
    rw[hz]at h2;exact h2
  |none=>
   rw[hy]at h1 h2;have hd:y= .xf:=h1;subst hd;cases hz:z.sh with
   |some c=>rw[hz]at h2;exact(h2:False).elim
   |none=>
    rw[hz]at h2;cases z<;>first|rfl|exact(h2:False).elim
 |none=>
  rw[hx]at h1;cases hy:y.sh with
  |some b=>rw[hy]at h1;exact(h1:False).elim
  |none=>
   rw[hy]at h1 h2;cases hz:z.sh with
   |some c=>rw[hz]at h2;exact(h2:False).elim
   |none=>
    rw[hz]at h2;cases x<;>cases y<;>first|exact(h1:False).elim|(cases z<;>first|exact(h2:False).elim|exact trivial|exact Eq.trans (h1:p=q) (h2:q=r))
theorem w8.refl(w:World)(H:qn)(ι:vG)(Im:Nat->Prop):w8 w H ι Im w H ι Im where
 comp:=fun β b h=>⟨b,h,vV b _⟩
 im:=fun _ h=>h
 mw:=fun _ h=> .inl h
 bC:=fun β x z h hu=> .inr ⟨β,x,h,hu⟩
 ka:=fun _ _ _=>rfl
 size:=xJ _
 io:=⟨rfl,rfl⟩
theorem w8.trans{w w1 w2:World}{H H1 H2:qn}{ι ι1 ι2:vG}{Im aV UB:Nat->Prop}
  (h1:w8 w H ι Im w1 H1 ι1 aV) (h2:w8 w1 H1 ι1 aV w2 H2 ι2 UB):w8 w H ι Im w2 H2 ι2 UB where
 comp:=fun β b h=>by
  obtain⟨b1,g1,c1⟩:=h1.comp β b h;obtain⟨b2,g2,c2⟩:=h2.comp β b1 g1;exact⟨b2,g2,Q8 c1 c2⟩
 im:=fun b h=>h2.im b (h1.im b h)
 mw:=fun b h=>by
  rcases h2.mw b h with h|h|⟨β,x,hx,hu⟩
  ·exact h1.mw b h
  ·exact .inr (.inl (Nat.le_trans h1.size h))
  rcases h1.bC β x b hx hu with h|⟨β0,x0,g,Es⟩
  ·exact .inr (.inl h)
  exact .inr (.inr ⟨β0,x0,g,Es⟩)
 bC:=fun β x z h hu=>by
  rcases h2.bC β x z h hu with h|⟨β0,x0,g,Es⟩
  ·exact .inl (Nat.le_trans h1.size h)
  exact h1.bC β0 x0 z g Es
 ka:=fun b hb hn=>by
  have e1:=h1.ka b hb hn;have e2:=h2.ka b (Nat.lt_of_lt_of_le hb h1.size) (fun β x hx hu=>by
   rcases h1.bC β x b hx hu with h|⟨β0,x0,g,Es⟩
   ·omega
   exact hn β0 x0 g Es)
  exact e2.trans e1
 size:=Nat.le_trans h1.size h2.size
 io:=⟨h2.io.1.trans h1.io.1,h2.io.2.trans h1.io.2⟩
theorem w8.Qo[zN]{w w1:World}{H H1:qn}{ι ι1:vG}{Im aV:Nat->Prop}(hi:qW w H ι Im)
  (h:w8 w H ι Im w1 H1 ι1 aV) (b:Nat) (hb:Im b):w1.heap[b]? =w.heap[b]? :=
 h.ka b (hi.im b hb) fun β x hx hu=>hi.KJ β x b hx hu hb
theorem ed{w w1:World}{b:Nat}(h:w1.heap[b]? =w.heap[b]?)(o:Nat):w1.cell? ⟨b,o,none⟩=w.cell? ⟨b,o,none⟩:=by
 simp only[World.cell?,h]
theorem RP.mono{w w' :World}{Im jA:Nat->Prop}(hi: ∀b,Im b->jA b)(hw: ∀b,Im b->w'.heap[b]? =w.heap[b]?)
  {p:PV} {v:Value} (h:RP w Im p v):RP w' jA p v:=by
 induction h with
 |bool b=>exact .bool b
 |int k n=>exact .int k n
 |str l=>exact .str l
 |agg c vs hl hf _ ih=>exact .agg c vs hl hf ih
 |cK sz=>exact .cK sz
 |sl sz es b off cap vs oJ Xk bO hc hf _ sp Tr ih=>
  refine .sl sz es b off cap vs (fun jv=>hi b (oJ jv)) Xk bO (fun i xB=>?_) hf ih sp Tr;have jv:es≠[]:=by
   intro e;subst e;simp at xB
  exact(ed (hw b (oJ jv)) _).trans (hc i xB)
 |jk=>exact .jk
 |rY=>exact .rY
 |gG=>exact .gG
 |dU=>exact .dU
 |fn f=>exact .fn f
 |rp c b off vs oJ hc hf _ ih=>exact .rp c b off vs (hi b oJ) (fun i xB=>(ed (hw b oJ) _).trans (hc i xB)) hf ih
theorem RA.mono[zN]{w w' :World}{H H' :qn}{ι ι' :vG}{Im jA:Nat->Prop}(hi:qW w H ι Im)(he:w8 w H ι Im w' H' ι' jA)
  {x:AV} {v:Value} (h:RA w H ι Im x v):RA w' H' ι' jA x v:=by
 have hw: ∀b,Im b->w'.heap[b]? =w.heap[b]? :=fun b hb=>he.Qo hi b hb;induction h with
 |undef v=>exact .undef v
 |pv p v h=>exact .pv p v (h.mono he.im hw)
 |ptr β o b hb hk=>
  obtain⟨b',g,hc⟩:=he.comp β _ hb;cases b<;>simp only[qD.EF,w9]at hk<;>cases b' <;>first|exact(hc:False).elim|(have UC:ι β=ι' β:=hc;rw[UC];exact .ptr β o _ g rfl)
 |yT β zF i o b1 o1 b hb xU h=>
  obtain⟨b',g,hc⟩:=he.comp β _ hb;refine .yT β zF i o b1 o1 b' g ?_ ?_
  ·intro qq sz l e;obtain⟨ez,sz0,l0,e0⟩:=oe hc e;rw[oc e0 e]at hc;exact Nat.le_trans (xU _ _ _ e0) hc.1
  intro qq sz l e hv hn;obtain⟨ez,sz0,l0,e0⟩:=oe hc e;rw[oc e0 e]at hc;have hle:=xU _ _ _ e0;have hl:l0=l:=by omega
  obtain⟨Xn,hs⟩:=hc.2 hl;obtain⟨hs,hp⟩:=hs (by rw[Xn];exact hn);obtain⟨g1,g2⟩:=h ez sz0 l0 e0 (by omega) (by rw[Xn];exact hn);exact⟨by rw[g1,hp.1],by rw[g2,hs]⟩
 |row β zF off n v b ho hb hk xU h=>
  obtain⟨b',g,hc⟩:=he.comp β _ hb;refine .row β zF off n v b' ho g ?_ ?_ ?_
  ·intro hd;by_cases h0:b= .xf
   ·subst h0;cases b' with
    |xf=>exact absurd rfl hd
    |_=>exact(hc:False).elim
   obtain⟨_,_,_,e0⟩:=hk h0;rcases HL hc e0 with h|h
   ·exact absurd h hd
   exact h
  ·intro qq sz l e;obtain⟨ez,sz0,l0,e0⟩:=oe hc e;rw[oc e0 e]at hc;exact Nat.le_trans (xU _ _ _ e0) hc.1
  intro qq sz l e hv;obtain⟨ez,sz0,l0,e0⟩:=oe hc e;rw[oc e0 e]at hc;have hle:=xU _ _ _ e0;have hl:l0=l:=by omega
  obtain⟨Xn,hs⟩:=hc.2 hl;obtain⟨h1,h2⟩:=h ez sz0 l0 e0 (by omega);refine⟨by omega, ?_⟩;cases hn:qq
  ·obtain⟨hs,hp⟩:=hs (by rw[Xn];exact hn);rw[Xn,hn]at h2;rw[<- hp.1,<- hp.2,<- hs];exact h2
  rw[Xn,hn]at h2;exact h2
 |mS c o b off vs oJ hc hf h=>
  exact .mS c o b off vs (he.im b oJ) (fun i xB=>(ed (hw b oJ) _).trans (hc i xB)) hf fun i p hp=>(h i p hp).mono he.im hw
 |aU a=>exact .aU a
 |map β es zI hb=>
  obtain⟨b',g,hc⟩:=he.comp β _ hb;cases b' <;>first|exact(hc:False).elim|(have UC:ι β=ι' β:=hc;rw[UC];exact .map β _ _ g)
 |lr f a b va vb Wa Tm _ _ iha ihb=>exact .lr f a b va vb Wa Tm iha ihb
 |agg c vs hl hf _ ih=>exact .agg c vs hl hf ih
 |xS c vs hl _ ih=>exact .xS c vs hl ih
def Xx(P:Program):TypeDesc->Option TD
 | .struct fs=>some (.struct (fs.toList.map fun f=>(f.offset,P.cellsOf f.type,f.type)))
 | .array n e=>some (.array n e)
 | .slice e=>some (.slice e)
 | .map k e=>some (.map k e)
 | .bool=>some .bool
 | .int k=>some (.int k)
 | .string=>some .string
 | .pointer _=>some .ptr
 | .func _ _ _=>some .func
 | .interface _| .tuple _=>some .other
 |_=>none
def pf(P:Program):Nat->List Field->Bool
 |_,[]=>true
 |i,f::r=>f.name != "_" &&f.offset==i&&pf P (i+P.cellsOf f.type) r
def eqok(P:Program)(t:TypeId):Bool:=
 match P.underlying t with
 |some (.struct fs)=> !P.stoodInHeld t&& !P.eqGuardType P.depth t&&pf P 0 fs.toList
 |_=>false
def lC:Value->Bool
 | .agg _=>true
 |_=>false
def TD.isAgg:TD->Bool
 | .struct _| .array _ _=>true
 |_=>false
def iD(P:Program)(t:TypeId):Bool:=
 match P.underlying t with
 |some (.struct fs)=>fs.toList.all fun f=>(P.info? f.type).isSome
 |_=>true
def TV(P:Program)(t:TypeId):Option TypeId:=match P.underlying t with|some (.pointer e)=>some e|_=>none
def tiOf(P:Program)(t:TypeId):Option TI:=
 match P.info? t,P.underlying t with
 |some i,some d=>match Xx P d,i.zero with
  |some td,some z=>match ae z.cells.toList with
   |some l=>if l.length=i.size/\lC z=td.isAgg/\(l.all PV.kv)=true/\iD P t=true then some ⟨i.size,i.bytes,td,l,eqok P t,TV P t⟩else none
   |none=>none
  |_,_=>none
 |_,_=>none
structure zx (P:Program) (t:TypeId) (ti:TI):Prop where
 info: ∃i z,P.info? t=some i/\i.size=ti.size/\i.bytes=ti.bytes/\i.zero=some z/\ae z.cells.toList=some ti.zero/\lC z=ti.td.isAgg
 len:ti.zero.length=ti.size
 kv: ∀p∈ti.zero,p.kv=true
 Lb: ∃d,P.underlying t=some d/\Xx P d=some ti.td
 known:iD P t=true
 eqk:ti.eq=eqok P t
 pek:ti.pe=TV P t
theorem tiOf_ok{P:Program}{t:TypeId}{ti:TI}(h:tiOf P t=some ti):zx P t ti:=by
 unfold tiOf at h;split at h<;>try cases h
 rename_i i d hi hd;split at h<;>try cases h
 rename_i td z xr hz;split at h<;>try cases h
 rename_i l hl;split at h<;>try cases h
 rename_i hc;obtain⟨h1,h2,h3,h4⟩:=hc;exact⟨⟨i,z,hi,rfl,rfl,hz,hl,h2⟩,h1,by simpa using h3,⟨d,hd,xr⟩,h4,rfl,rfl⟩
theorem qn.qZ(H:qn)(β γ:Nat)(y:qD):(H.put β y).get γ=if γ=β then some y else H.get γ:=by
 induction H with
 |nil=>simp only[qn.put,qn.get];by_cases h:β=γ<;>simp[h,eq_comm]
 |cons x r ih=>
  obtain⟨i,v⟩:=x;simp only[qn.put];by_cases h:i=β
  ·subst h;simp only[if_true,qn.get];by_cases h2:i=γ
   ·simp[h2]
   simp[h2,Ne.symm h2]
  simp only[h,if_false,qn.get,ih];by_cases h2:i=γ
  ·subst h2;simp[h]
  simp[h2]
def jj(ι:vG)(β:Nat)(p:Pl):vG:=fun γ=>if γ=β then p else ι γ
@[simp] theorem jT (ι:vG) (β:Nat) (p:Pl):jj ι β p β=p:=by simp[jj]
theorem nT(ι:vG){β γ:Nat}(p:Pl)(h:γ≠β):jj ι β p γ=ι γ:=by simp[jj,h]
theorem eX.mono{w w' :World}{Im jA:Nat->Prop}(hi: ∀b,Im b->jA b)(hw: ∀b,Im b->w'.heap[b]? =w.heap[b]?){ds:List Nat}{p:PV}{v:Value}{k:Sk}(h:eX w Im ds p v k):
  (∀ x∈k.blocks,w'.heap[x]? =w.heap[x]?)->eX w' jA ds p v k:=by
 induction h with
 |Km p v hs h=>exact fun _=> .Km p v hs (h.mono hi hw)
 |nil d ds=>exact fun _=> .nil d ds
 |sl d ds es b o cap ks vs elem fz hb hfz DT hd hle ho rS G5 val Xp _ ih=>
  intro hk;refine .sl d ds es b o cap ks vs elem fz (by rw[hk b (by simp[Sk.blocks])];exact hb) hfz DT hd hle ho rS G5 val Xp fun i p k a c=>ih i p k a c fun x hx=>hk x ?_;simp only[Sk.blocks,List.mem_cons,List.mem_flatMap];exact .inr ⟨k,qX c,hx⟩
theorem pF.mono[zN]{w w' :World}{H H' :qn}{ι ι' :vG}{Im jA:Nat->Prop}(hi:qW w H ι Im)(he:w8 w H ι Im w' H' ι' jA)
  {β:Nat} {b:qD} (hp:b.used=true->ι' β=ι β/\ ∀x,b.vn (ι β) x->w'.heap[x]? =w.heap[x]?) (h:pF w H ι Im β b):pF w' H' ι' jA β b:=by
 have hw: ∀b,Im b->w'.heap[b]? =w.heap[b]? :=fun b hb=>he.Qo hi b hb;cases b with
 |box c=>
  obtain⟨e1,e2⟩:=hp rfl;have e2:=e2 _ ⟨rfl,.inl rfl⟩;obtain⟨vs,elem,fz,h1,h2,h3,h4,h5⟩:=h;exact⟨vs,elem,fz,by rw[e1,e2];exact h1,h2,h3,h4,fun i x v a b=>(h5 i x v a b).mono hi he⟩
 |row qq sz es=>
  cases qq with
  |true=>exact h
  |false=>
   obtain⟨e1,e2⟩:=hp rfl;have e2:=e2 _ ⟨rfl,.inl rfl⟩;obtain⟨vs,elem,fz,h1,h2,h3,h4,h5,h6,h7,h8⟩:=h;refine⟨vs,elem,fz,by rw[e1,e2];exact h1,h2,by rw[e1];exact h3,h4,by rw[e1];exact h5,h6,h7,fun i e j p a b=>?_⟩;obtain⟨v,g1,g2⟩:=h8 i e j p a b;exact⟨v,g1,g2.mono he.im hw⟩
 |map es zI=>
  obtain⟨e1,e2⟩:=hp rfl;have e2:=e2 _ ⟨rfl,.inl rfl⟩;obtain⟨zO,h1,h2,h3⟩:=h;refine⟨zO,by rw[e1,e2];exact h1,h2,fun i k x born e a b=>?_⟩;obtain⟨g1,g2,g3⟩:=h3 i k x born e a b;exact⟨g1.mono he.im hw,g2.mono he.im hw,g3⟩
 |yq sz es=>
  obtain⟨e1,e2⟩:=hp rfl;have e2:=e2 _ ⟨rfl,.inl rfl⟩;obtain⟨vs,elem,fz,h1,h2,h3,h4,h5,h6,h7,h8⟩:=h;refine⟨vs,elem,fz,by rw[e1,e2];exact h1,h2,by rw[e1];exact h3,h4,by rw[e1];exact h5,h6,h7,fun i e j x a b=>?_⟩;obtain⟨v,g1,g2⟩:=h8 i e j x a b;exact⟨v,g1,g2.mono hi he⟩
 |jI qq ds es i6=>
  cases qq with
  |true=>exact h
  |false=>
   obtain⟨e1,e2⟩:=hp rfl;obtain⟨vs,elem,fz,h1,h2,h3,h4,h5,h6,h7,h8,h9⟩:=h;refine⟨vs,elem,fz,by rw[e1,e2 _ ⟨rfl,.inl rfl⟩];exact h1,h2,by rw[e1];exact h3,by rw[e1];exact h4,by rw[e1];exact h5,by rw[e1];exact h6,fun x hx=>Nat.lt_of_lt_of_le (h7 x (by rw[<- e1];exact hx)) he.size,h8,fun i p k a b=>?_⟩;rw[e1]at b;obtain⟨v,g1,g2,g3⟩:=h9 i p k a b;exact⟨v,g1,fun hj=>(g2 hj).mono he.im hw fun x hx=>e2 x ⟨rfl,.inr ⟨rfl,List.mem_flatMap.mpr ⟨k,qX b,hx⟩⟩⟩,fun γ zF hf=>⟨(g3 γ zF hf).1,(g3 γ zF hf).2.mono hi he⟩⟩
 |xf=>trivial
theorem pF.lt{w:World}{H:qn}{ι:vG}{Im:Nat->Prop}{β:Nat}{b:qD}(h:pF w H ι Im β b)(hu:b.used=true):(ι β).b<w.heap.size:=by
 have key: ∀o,w.heap[(ι β).b]? =some o->(ι β).b<w.heap.size:=fun o ho=>by
  rcases Nat.lt_or_ge (ι β).b w.heap.size with xB|hge
  ·exact xB
  simp[Array.getElem?_eq_none hge]at ho
 cases b with
 |box c=>obtain⟨vs,elem,fz,h1,_⟩:=h;exact key _ h1
 |row qq sz es=>
  cases qq with
  |true=>cases hu
  |false=>obtain⟨vs,elem,fz,h1,_⟩:=h;exact key _ h1
 |map es zI=>obtain⟨zO,h1,_⟩:=h;exact key _ h1
 |yq sz es=>obtain⟨vs,elem,fz,h1,_⟩:=h;exact key _ h1
 |jI qq ds es i6=>
  cases qq with
  |true=>cases hu
  |false=>obtain⟨vs,elem,fz,h1,_⟩:=h;exact key _ h1
 |xf=>cases hu
theorem pF.rD{w:World}{H:qn}{ι:vG}{Im:Nat->Prop}{β:Nat}{b:qD}{x:Nat}(h:pF w H ι Im β b)(hu:b.vn (ι β) x):x<w.heap.size:=by
 rcases hu.2 with rfl|⟨ho,hx⟩
 ·exact h.lt hu.1
 cases b<;>simp only[qD.Tx,w9]at ho;rename_i qq ds es i6;cases qq with
 |true=>exact absurd hu.1 (by simp[qD.used])
 |false=>
  obtain⟨vs,elem,fz,h1,h2,h3,h4,h5,h6,h7,h8⟩:=h;exact h7 x hx
theorem qD.foot_of{b:qD}{p:Pl}{x:Nat}(hb:b.Tx=false)(h:b.vn p x):x=p.b:=by
 rcases h.2 with h|⟨h,_⟩
 ·exact h
 rw[hb]at h;cases h
theorem qW.MP[zN]{w w' :World}{H:qn}{ι:vG}{Im:Nat->Prop}(hi:qW w H ι Im)(β:Nat)(y:qD)(p:Pl)
  (hold: ∀x,H.get β=some x->xi x y (ι β) p) (bO:w.heap.size<=w'.heap.size/\w'.os=w.os/\w'.output=w.output)
  (ZO: ∀b,b<w.heap.size->(∀ x,H.get β=some x-> ¬x.vn (ι β) b)->w'.heap[b]? =w.heap[b]?)
  (sI: ∀z,y.vn p z->w.heap.size<=z\/ ∃x,H.get β=some x/\x.vn (ι β) z)
  (eZ:w8 w H ι Im w' (H.put β y) (jj ι β p) Im->pF w' (H.put β y) (jj ι β p) Im β y):
  qW w' (H.put β y) (jj ι β p) Im/\w8 w H ι Im w' (H.put β y) (jj ι β p) Im:=by
 have he:w8 w H ι Im w' (H.put β y) (jj ι β p) Im:=by
  refine⟨fun γ b hb=>?_,fun _ h=>h,fun _ h=> .inl h,fun γ x z hx hu=>?_,fun b hb hn=>?_,bO.1,bO.2⟩
  ·by_cases hγ:γ=β
   ·subst hγ;exact⟨y,by simp[qn.qZ],by simpa using hold b hb⟩
   exact⟨b,by simp[qn.qZ,hγ,hb],by rw[nT ι p hγ];exact vV b _⟩
  ·by_cases hγ:γ=β
   ·subst hγ;simp only[qn.qZ,if_true,kX]at hx;subst hx;rw[jT]at hu;rcases sI z hu with h|⟨x,g1,g2⟩
    ·exact .inl h
    exact .inr ⟨γ,x,g1,g2⟩
   simp only[qn.qZ,hγ,if_false]at hx;rw[nT ι p hγ]at hu;exact .inr ⟨γ,x,hx,hu⟩
  exact ZO b hb fun x hx hu=>hn β x hx hu
 refine⟨⟨fun γ b hb=>?_,fun γ γ' b b' z hb xQ hu hu' =>?_,fun b hb=>Nat.lt_of_lt_of_le (hi.im b hb) bO.1,fun γ b z hb hu=>?_, ?_, ?_⟩,he⟩
 ·by_cases hγ:γ=β
  ·subst hγ;simp only[qn.qZ,if_true,kX]at hb;subst hb;exact eZ he
  simp only[qn.qZ,hγ,if_false]at hb;refine(hi.mX γ b hb).mono hi he (fun hu=>⟨nT ι p hγ,fun x hx=>?_⟩);exact ZO _ ((hi.mX γ b hb).rD hx) fun x0 hx0 C4=>hγ (hi.inj γ β b x0 x hb hx0 hx C4)
 ·have fresh: ∀δ d,δ≠β->H.get δ=some d->d.vn (ι δ) z->y.vn p z->False:=by
   intro δ d hδ hd hud huy;rcases sI z huy with h|⟨x,g1,g2⟩
   ·have:=(hi.mX δ d hd).rD hud;omega
   exact hδ (hi.inj δ β d x z hd g1 hud g2)
  by_cases hγ:γ=β<;>by_cases hγ' :γ' =β
  ·rw[hγ,hγ']
  ·subst hγ;simp only[qn.qZ,if_true,kX,hγ',if_false]at hb xQ;subst hb;rw[jT]at hu;rw[nT ι p hγ']at hu';exact(fresh γ' b' hγ' xQ hu' hu).elim
  ·subst hγ';simp only[qn.qZ,if_true,kX,hγ,if_false]at hb xQ;subst xQ;rw[jT]at hu';rw[nT ι p hγ]at hu;exact(fresh γ b hγ hb hu hu').elim
  simp only[qn.qZ,hγ,hγ',if_false]at hb xQ;rw[nT ι p hγ]at hu;rw[nT ι p hγ']at hu';exact hi.inj γ γ' b b' z hb xQ hu hu'
 ·by_cases hγ:γ=β
  ·subst hγ;simp only[qn.qZ,if_true,kX]at hb;subst hb;rw[jT]at hu;rcases sI z hu with h|⟨x,g1,g2⟩
   ·intro hIm;have:=hi.im _ hIm;omega
   exact hi.KJ γ x z g1 g2
  simp only[qn.qZ,hγ,if_false]at hb;rw[nT ι p hγ]at hu;exact hi.KJ γ b z hb hu
 ·exact zN.go hi.G0 hi.W6 fun b hb=>he.Qo hi b hb
 exact hi.W6
theorem TM{H:qn}{β:Nat}{x0:qD}(h:H.get β=some x0)(h0:x0.Tx=false): ∀x,H.get β=some x->x.Tx=false:=fun x hx=>by
 rw[h]at hx;cases hx;exact h0
theorem GF{H:qn}{β:Nat}(h:H.get β=none): ∀x,H.get β=some x->x.Tx=false:=fun x hx=>by
 rw[h]at hx;cases hx
theorem qW.put[zN]{w w' :World}{H:qn}{ι:vG}{Im:Nat->Prop}(hi:qW w H ι Im)(β:Nat)(y:qD)(p:Pl)
  (hold: ∀x,H.get β=some x->xi x y (ι β) p) (bO:w.heap.size<=w'.heap.size/\w'.os=w.os/\w'.output=w.output)
  (ZO: ∀b,b<w.heap.size->(∀ x,H.get β=some x->x.used=true->(ι β).b≠b)->w'.heap[b]? =w.heap[b]?)
  (sI:y.used=true->w.heap.size<=p.b\/ ∃x,H.get β=some x/\x.used=true/\(ι β).b=p.b)
  (eZ:w8 w H ι Im w' (H.put β y) (jj ι β p) Im->pF w' (H.put β y) (jj ι β p) Im β y)
  (Qh: ∀x,H.get β=some x->x.Tx=false:=by first|(apply TM;assumption;rfl)|(apply GF;assumption)) (hy:y.Tx=false:=by rfl):
  qW w' (H.put β y) (jj ι β p) Im/\w8 w H ι Im w' (H.put β y) (jj ι β p) Im:=by
 refine qW.MP hi β y p hold bO (fun b hb hn=>ZO b hb fun x hx hu e=>hn x hx ⟨hu,.inl e.symm⟩) (fun z hz=>?_) eZ;rw[qD.foot_of hy hz];rcases sI hz.1 with h|⟨x,g1,g2,g3⟩
 ·exact .inl h
 exact .inr ⟨x,g1,g2,.inl g3.symm⟩
section
variable [zN] {P:Program} {w:World} {H:qn} {ι:vG} {Im:Nat->Prop}
theorem TY{v:Value}{p:PV}(h:IC v=some p):RP w Im p v/\p.kv=true/\v.cells= #[v]:=by
 unfold IC at h;split at h<;>cases h
 ·exact⟨.bool _,rfl,rfl⟩
 ·exact⟨.int _ _,rfl,rfl⟩
 ·exact⟨.str _,rfl,rfl⟩
 ·exact⟨.jk,rfl,rfl⟩
 ·exact⟨.cK _,rfl,rfl⟩
 ·exact⟨.gG,rfl,rfl⟩
 ·exact⟨.rY,rfl,rfl⟩
 ·exact⟨.dU,rfl,rfl⟩
 exact⟨.fn _,rfl,rfl⟩
theorem QD: ∀{vs:List Value}{l:List PV},ae vs=some l->
  l.length=vs.length/\(∀ p∈l,p.kv=true)/\ ∀(i:Nat) p v,l[i]? =some p->vs[i]? =some v->RP w Im p v
 |[],l,h=>by
  simp only[ae,kX]at h;subst h;simp
 |v::r,l,h=>by
  simp only[ae]at h;split at h<;>cases h;rename_i p l' hp hl;obtain⟨h1,h2,h3⟩:=QD hl;obtain⟨g1,g2,_⟩:=TY (w:=w) (Im:=Im) hp;refine⟨by simp[h1],by simpa using⟨g2,h2⟩,fun i q u hq hu=>?_⟩;cases i with
  |zero=>simp at hq hu;subst hq hu;exact g1
  |succ i=>simp at hq hu;exact h3 i q u hq hu
theorem avOf_ok(v:Value):RA w H ι Im (avOf v) v:=by
 unfold avOf;split
 ·split
  ·rename_i cs _ l hl;obtain⟨h1,h2,h3⟩:=QD (w:=w) (Im:=Im) hl;exact .pv _ _ (.agg l cs h1 h2 h3)
  exact .undef _
 ·exact .xS [] [] rfl (by simp)
 split
 ·rename_i p hp;exact .pv _ _ (TY hp).1
 exact .undef _
theorem oZ{a:Act}{E:vF}(hE: ∀t,RA w H ι Im (E.get t) (a.tmps.getD t undef))(x:Operand):RA w H ι Im (ev E x) (a.eval x):=by
 cases x with
 |tmp t=>exact hE t
 |const v=>exact avOf_ok v
 |global g=>exact .undef _
 |func f=>exact .pv _ _ (.fn f)
theorem add_plain(b o n:Nat):(⟨b,o,none⟩:Addr).add n=⟨b,o+n,none⟩:=by
 unfold Addr.add;split
 ·rename_i h;subst h;rfl
 rfl
theorem ux{b o:Nat}{vs:Array Value}{elem:TypeId}{fz:Nat×Nat}(h:w.heap[b]? =some (.cells vs elem fz)):
  w.cell? ⟨b,o,none⟩=vs[o]? :=by
 simp[World.cell?,h]
theorem qv{t:TypeId}{d:TypeDesc}(h:P.underlying t=some d):(underlying t).run P w= .ok d w:=by
 simp[underlying,h]
theorem uQ{t:TypeId}{i:TypeInfo}(h:P.info? t=some i):(typeInfo t).run P w= .ok i w:=by
 simp[typeInfo,h]
theorem zx.size{t:TypeId}{ti:TI}(h:zx P t ti):(sizeOf t).run P w= .ok ti.size w:=by
 obtain⟨i,z,h1,h2,_⟩:=h.info;simp[sizeOf,uQ h1,h2]
theorem zx.isAgg{t:TypeId}{ti:TI}(h:zx P t ti):(Go.isAgg t).run P w= .ok ti.isAgg w:=by
 obtain⟨d,h1,h2⟩:=h.Lb;unfold Go.isAgg;simp only[ji,qv h1,gm];unfold TI.isAgg;generalize ti.td=td at*
 cases d<;>simp[Xx]at h2<;>subst h2<;>rfl
theorem run_loadCellsFrom(b o:Nat)(vs:Nat->Value): ∀(n i:Nat)(acc:Array Value),(∀ j,j<n->w.cell? ⟨b,o+(i+j),none⟩=some (vs (i+j)))->
  (loadCellsFrom ⟨b,o,none⟩ i n acc).run P w= .ok (acc++((List.range n).map fun j=>vs (i+j)).toArray) w
 |0,i,acc,_=>by simp[loadCellsFrom]
 |n+1,i,acc,h=>by
  have h0:=h 0 (by omega);simp only[Nat.add_zero]at h0;have ih:=run_loadCellsFrom b o vs n (i+1) (acc.push (vs i)) (fun j hj=>by
   have:=h (j+1) (by omega)
   rwa[show i+(j+1)=i+1+j from by omega]at this)
  simp only[loadCellsFrom,add_plain,ji,run_load,h0,gm,ih];congr 1;apply Array.ext';simp[List.range_succ_eq_map,Function.comp_def,Nat.add_assoc,Nat.add_comm 1]
theorem run_loadCells(b o n:Nat)(vs:Nat->Value)(h: ∀j,j<n->w.cell? ⟨b,o+j,none⟩=some (vs j)):
  (loadCells ⟨b,o,none⟩ n).run P w= .ok ((List.range n).map vs).toArray w:=by
 unfold loadCells;rw[run_loadCellsFrom b o vs n 0 #[] (fun j hj=>by simpa using h j hj)];simp
theorem ea: ∀{c:List AV}{l:List PV},iq c=some l->c=l.map .pv
 |[],l,h=>by simp[iq]at h;subst h;rfl
 |x::r,l,h=>by
  cases x<;>simp only[iq]at h<;>try cases h
  split at h<;>cases h;rename_i l' hl;simp[ea hl]
theorem iP{c:List AV}{vs:List Value}(hl:c.length=vs.length)(hf: ∀x∈c,x.kv=true)
  (h: ∀(i:Nat) x v,c[i]? =some x->vs[i]? =some v->RA w H ι Im x v):RA w H ι Im (ZS c) (.agg ⟨vs⟩):=by
 unfold ZS;split
 ·rename_i l hp;have:=ea hp;subst this;refine .pv _ _ (.agg l vs (by simpa using hl) (fun p hp=>?_) fun i p v h1 h2=>?_)
  ·have:=hf (.pv p) (by simp[hp]);simpa[AV.kv]using this
  have:=h i (.pv p) v (by simp[h1]) h2;cases this;assumption
 exact .agg c vs hl hf h
theorem Mh{t:TypeId}{ti:TI}(ht:zx P t ti)(b o:Nat)(c:List AV)(vs:Nat->Value)
  (hc: ∀i,i<c.length->w.cell? ⟨b,o+i,none⟩=some (vs i)) (hf: ∀x∈c,x.kv=true)
  (h: ∀(i:Nat) x,c[i]? =some x->RA w H ι Im x (vs i)) {r:AV} (hr:DY ti c=some r):
  ∃u,(loadVar t ⟨b,o,none⟩).run P w= .ok u w/\RA w H ι Im r u:=by
 unfold DY at hr;unfold loadVar;simp only[ji,ht.isAgg,gm];by_cases ha:ti.isAgg=true
 ·simp only[ha,if_true]at hr |-;split at hr<;>cases hr;rename_i hlen;refine⟨.agg ⟨(List.range ti.size).map vs⟩, ?_,iP (by simp;omega) (fun x hx=>hf x (List.mem_of_mem_take hx)) ?_⟩
  ·simp only[ji,ht.size,gm,run_loadCells b o ti.size vs (fun j hj=>hc j (by omega)),Sem.run_pure]
  intro i x v h1 h2;simp only[List.getElem?_map,yi]at h2;obtain⟨j,hj,rfl⟩:=h2;by_cases hi:i<ti.size
  ·simp[hi]at hj;subst hj;rw[List.getElem?_take_of_lt hi]at h1;exact h i x h1
  simp[hi]at hj
 simp only[ha,w9,if_false]at hr |-;cases c with
 |nil=>cases hr
 |cons x r' =>
  simp only[kX]at hr;have h0:=hc 0 (by simp);simp only[Nat.add_zero]at h0;refine⟨vs 0,by simp[h0],hr ▸ h 0 x (by simp)⟩
theorem Mi{t:TypeId}{ti:TI}(ht:zx P t ti)(b o:Nat)(c:List PV)(vs:Nat->Value)
  (hc: ∀i,i<c.length->w.cell? ⟨b,o+i,none⟩=some (vs i)) (hf: ∀x∈c,x.kv=true)
  (h: ∀(i:Nat) x,c[i]? =some x->RP w Im x (vs i)) {r:AV} (hr:ldP ti c=some r):
  ∃u,(loadVar t ⟨b,o,none⟩).run P w= .ok u w/\RA w H ι Im r u:=by
 unfold ldP at hr;unfold loadVar;simp only[ji,ht.isAgg,gm];by_cases ha:ti.isAgg=true
 ·simp only[ha,if_true]at hr |-;split at hr<;>cases hr;rename_i hlen;refine⟨.agg ⟨(List.range ti.size).map vs⟩, ?_,.pv _ _ (.agg _ _ (by simp;omega) (fun x hx=>hf x (List.mem_of_mem_take hx)) ?_)⟩
  ·simp only[ji,ht.size,gm,run_loadCells b o ti.size vs (fun j hj=>hc j (by omega)),Sem.run_pure]
  intro i x v h1 h2;simp only[List.getElem?_map,yi]at h2;obtain⟨j,hj,rfl⟩:=h2;by_cases hi:i<ti.size
  ·simp[hi]at hj;subst hj;rw[List.getElem?_take_of_lt hi]at h1;exact h i x h1
  simp[hi]at hj
 simp only[ha,w9,if_false]at hr |-;cases c with
 |nil=>cases hr
 |cons x r' =>
  simp only[kX]at hr;have h0:=hc 0 (by simp);simp only[Nat.add_zero]at h0;refine⟨vs 0,by simp[h0],hr ▸ .pv _ _ (h 0 x (by simp))⟩
end
section
variable [zN] {P:Program} {w:World} {H:qn} {ι:vG} {Im:Nat->Prop}
theorem qW.box{β:Nat}{c:List AV}(hi:qW w H ι Im)(hb:H.get β=some (.box c)):
  ∃vs elem fz,w.heap[(ι β).b]? =some (.cells vs elem fz)/\wa fz vs.size/\c.length=vs.size/\
   (∀ x∈c,x.kv=true)/\ ∀(i:Nat) x v,c[i]? =some x->vs[i]? =some v->RA w H ι Im x v:=hi.mX β _ hb
theorem qW.row{β sz:Nat}{es:List (List PV)}(hi:qW w H ι Im)(hb:H.get β=some (.row false sz es)):
  ∃vs elem fz,w.heap[(ι β).b]? =some (.cells vs elem fz)/\wa fz vs.size/\vs.size=(ι β).cap*sz/\0<sz/\
   es.length<=(ι β).cap/\(∀ e∈es,e.length=sz)/\(∀(i:Nat) e(j:Nat) p,es[i]? =some e->e[j]? =some p->p.kv=true)/\
   ∀(i:Nat) e(j:Nat) p,es[i]? =some e->e[j]? =some p-> ∃v,vs[i*sz+j]? =some v/\RP w Im p v:=hi.mX β _ hb
theorem qW.yq{β sz:Nat}{es:List (List AV)}(hi:qW w H ι Im)(hb:H.get β=some (.yq sz es)):
  ∃vs elem fz,w.heap[(ι β).b]? =some (.cells vs elem fz)/\wa fz vs.size/\vs.size=(ι β).cap*sz/\0<sz/\
   es.length<=(ι β).cap/\(∀ e∈es,e.length=sz)/\(∀(i:Nat) e(j:Nat) x,es[i]? =some e->e[j]? =some x->x.kv=true)/\
   ∀(i:Nat) e(j:Nat) x,es[i]? =some e->e[j]? =some x-> ∃v,vs[i*sz+j]? =some v/\RA w H ι Im x v:=hi.mX β _ hb
theorem qW.jI{β:Nat}{ds:List Nat}{es:List PV}{i6:Option (Nat×Nat×Nat)}(hi:qW w H ι Im)(hb:H.get β=some (.jI false ds es i6)):
  ∃vs elem fz,w.heap[(ι β).b]? =some (.cells vs elem fz)/\wa fz vs.size/\vs.size=(ι β).cap/\es.length<=(ι β).cap/\(ι β).ks.length=es.length/\
   ((ι β).b::(ι β).ks.flatMap Sk.blocks).Nodup/\(∀ x∈(ι β).ks.flatMap Sk.blocks,x<w.heap.size)/\(∀ j γ zF,i6=some (j,γ,zF)->j<es.length)/\
   ∀(i:Nat) p k,es[i]? =some p->(ι β).ks[i]? =some k-> ∃v,vs[i]? =some v/\
    ((∀ j γ zF,i6=some (j,γ,zF)->i≠j)->eX w Im ds p v k)/\(∀ γ zF,i6=some (i,γ,zF)->k= .leaf/\RA w H ι Im (.row γ zF 0 zF) v):=hi.mX β _ hb
theorem tY(t:TypeId)(a:Addr):(Instr.loadAt t (.pointer (some a))).run P w=(loadVar t a).run P w:=by
 unfold Instr.loadAt Instr.sureAddr;simp
theorem mem_of_getElem?{α:Type}{l:List α}{i:Nat}{x:α}(h:l[i]? =some x):x∈l:=qX h
theorem Ho{t:TypeId}{ti:TI}(ht:zx P t ti)(hi:qW w H ι Im){x:AV}{v:Value}(hx:RA w H ι Im x v)
  {r:AV} (hr:oP ti x H=some r): ∃u,(Instr.loadAt t v).run P w= .ok u w/\RA w H ι Im r u:=by
 unfold oP at hr;split at hr
 ·rename_i β o;split at hr<;>try cases hr
  rename_i c hb;cases hx;obtain⟨vs,elem,fz,h1,h2,h3,h4,h5⟩:=hi.box hb;rw[tY];refine Mh ht _ o (c.drop o) (fun i=>(vs[o+i]?).getD undef) (fun i xB=>?_) (fun x hx=>h4 x (List.mem_of_mem_drop hx)) (fun i x hx=>?_) hr
  ·rw[ux h1];have:o+i<vs.size:=by simp at xB;omega
   simp[this]
  rw[List.getElem?_drop]at hx;have xB:o+i<vs.size:=by
   have:=(qG hx).1;omega
  exact h5 (o+i) x _ hx (by simp[xB])
 ·rename_i β zF i o;split at hr<;>try cases hr
  ·rename_i sz es hb;split at hr<;>try cases hr
   rename_i xU;split at hr<;>try cases hr
   rename_i e he;have hvv:v= .pointer (some ⟨(ι β).b,i*sz+o,none⟩):=by
    cases hx with
    |yT _ _ _ _ b1 o1 b xQ hv h=>
     rw[hb]at xQ;cases xQ;obtain⟨rfl,rfl⟩:=h _ _ _ rfl xU rfl;rfl
   subst hvv;obtain⟨vs,elem,fz,h1,h2,h3,h4,h5,h6,h7,h8⟩:=hi.row hb;rw[tY];refine Mi ht _ (i*sz+o) (e.drop o) (fun j=>(vs[i*sz+o+j]?).getD undef) (fun j xB=>?_) (fun x hx=>?_) (fun j p hp=>?_) hr
   ·rw[ux h1];obtain⟨p,hp⟩: ∃p,e[o+j]? =some p:=by
     simp at xB;exact⟨e[o+j]'(by omega),by simp⟩
    obtain⟨v,g1,_⟩:=h8 i e (o+j) p he hp;rw[Nat.add_assoc,g1];rfl
   ·obtain⟨j,hj⟩:=jz (List.mem_of_mem_drop hx);exact h7 i e j x he hj
   rw[List.getElem?_drop]at hp;obtain⟨v,g1,g2⟩:=h8 i e (o+j) p he hp;simp only[Nat.add_assoc,g1,Option.getD_some];exact g2
  ·rename_i sz es hb;split at hr<;>try cases hr
   rename_i xU;split at hr<;>try cases hr
   rename_i e he;have hvv:v= .pointer (some ⟨(ι β).b,i*sz+o,none⟩):=by
    cases hx with
    |yT _ _ _ _ b1 o1 b xQ hv h=>
     rw[hb]at xQ;cases xQ;obtain⟨rfl,rfl⟩:=h _ _ _ rfl xU rfl;rfl
   subst hvv;obtain⟨vs,elem,fz,h1,h2,h3,h4,h5,h6,h7,h8⟩:=hi.yq hb;rw[tY];refine Mh ht _ (i*sz+o) (e.drop o) (fun j=>(vs[i*sz+o+j]?).getD undef) (fun j xB=>?_) (fun x hx=>?_) (fun j p hp=>?_) hr
   ·rw[ux h1];obtain⟨p,hp⟩: ∃p,e[o+j]? =some p:=by
     simp at xB;exact⟨e[o+j]'(by omega),by simp⟩
    obtain⟨v,g1,_⟩:=h8 i e (o+j) p he hp;rw[Nat.add_assoc,g1];rfl
   ·obtain⟨j,hj⟩:=jz (List.mem_of_mem_drop hx);exact h7 i e j x he hj
   rw[List.getElem?_drop]at hp;obtain⟨v,g1,g2⟩:=h8 i e (o+j) p he hp;simp only[Nat.add_assoc,g1,Option.getD_some];exact g2
  rename_i ds es j γ fv hb;split at hr<;>try cases hr
  rename_i hc;obtain⟨xU,rfl,rfl⟩:=hc;have hvv:v= .pointer (some ⟨(ι β).b,j*1+0,none⟩):=by
   cases hx with
   |yT _ _ _ _ b1 o1 b xQ hv h=>
    rw[hb]at xQ;cases xQ;obtain⟨rfl,rfl⟩:=h _ _ _ rfl xU rfl;rfl
  subst hvv;obtain⟨vs,elem,fz,h1,h2,h3,h4,h5,h6,h7,h8,h9⟩:=hi.jI hb;have hj:=h8 _ _ _ rfl;obtain⟨v0,g1,_,g3⟩:=h9 j es[j] (ι β).ks[j] (by simp[hj]) (by simp);have g4:=(g3 _ _ rfl).2;rw[tY,show j*1+0=j by omega];refine Mh ht _ j [.row γ fv 0 fv] (fun _=>v0) (fun k xB=>?_) (fun x hx=>by simp at hx;subst hx;rfl) (fun k p hp=>?_) hr
  ·rw[ux h1];have:k=0:=by simpa using xB
   subst this;exact g1
  cases k with
  |zero=>simp at hp;subst hp;exact g4
  |succ k=>simp at hp
 ·rename_i c o;cases hx;rename_i b off vs oJ hc hf h;rw[tY];refine Mi ht _ (off+o) (c.drop o) (fun j=>vs (o+j)) (fun j xB=>?_) (fun x hx=>hf x (List.mem_of_mem_drop hx)) (fun j p hp=>?_) hr
  ·rw[Nat.add_assoc];exact hc (o+j) (by simp at xB;omega)
  rw[List.getElem?_drop]at hp;exact h (o+j) p hp
 ·rename_i c;cases hx with
  |pv _ _ h=>cases h with
   |rp _ b off vs oJ hc hf h=>
    rw[tY];exact Mi ht _ off c vs hc hf h hr
 cases hr
theorem Ui{b o:Nat}{vs:Array Value}{elem:TypeId}{fz:Nat×Nat}{x:Value}(h:w.heap[b]? =some (.cells vs elem fz)):
  (w.setCell ⟨b,o,none⟩ x).heap[b]? =some (.cells (vs.setIfInBounds o x) elem fz):=by
 obtain⟨xB,hv⟩:=Array.getElem?_eq_some_iff.1 h;simp[World.setCell,xB,hv,Array.getElem_modify]
theorem Wu{a:Addr}{x:Value}{b' :Nat}(jv:a.block≠b'):(w.setCell a x).heap[b']? =w.heap[b']? :=by
 simp[World.setCell,Array.getElem?_modify,jv]
theorem Uj{a:Addr}{x:Value}:(w.setCell a x).heap.size=w.heap.size:=by
 simp[World.setCell]
theorem RP.s7{p:PV}{v:Value}(hp:p.kv=true)(h:RP w Im p v):s7 v=true:=by
 cases h<;>first|rfl|cases hp
theorem RA.s7{x:AV}{v:Value}(hp:x.kv=true)(h:RA w H ι Im x v):Go.Gm.s7 v=true:=by
 cases h with
 |pv p v h=>exact h.s7 hp
 |undef=>cases hp
 |agg=>cases hp
 |xS=>cases hp
 |row _ _ _ _ _ _ ho=>exact ho
 |_=>rfl
theorem Po{b o:Nat}{vs:Array Value}{elem:TypeId}{fz:Nat×Nat}{x:Value}(h:w.heap[b]? =some (.cells vs elem fz))
  (ho:o<vs.size) (hf:wa fz vs.size) (hx:s7 x=true):(store ⟨b,o,none⟩ x).run P w= .ok () (w.setCell ⟨b,o,none⟩ x):=by
 have hc:w.cell? ⟨b,o,none⟩=some vs[o]:=by rw[ux h];simp[ho]
 have hz:w.frozen? ⟨b,o,none⟩=false:=by
  have:=hf.2 o ho;simp only[World.frozen?,h];simp only[Bool.and_eq_false_iff,decide_eq_false_iff_not];omega
 cases x<;>simp_all [store,Sem.run,s7]
theorem wQ(b o:Nat)(elem:TypeId)(fz:Nat×Nat): ∀(xs:List Value)(i:Nat)(w:World)(vs:Array Value),w.heap[b]? =some (.cells vs elem fz)->
  wa fz vs.size->o+i+xs.length<=vs.size->(∀ x∈xs,s7 x=true)->
  ∃w',(storeCells ⟨b,o,none⟩ xs i).run P w= .ok () w' /\(w'.heap.size=w.heap.size/\w'.os=w.os/\w'.output=w.output)/\(∀ b',b' ≠b->w'.heap[b']? =w.heap[b']?)/\
   ∃dH,w'.heap[b]? =some (.cells dH elem fz)/\dH.size=vs.size/\ ∀k,dH[k]? =if o+i<=k/\k<o+i+xs.length then xs[k-(o+i)]? else vs[k]?
 |[],i,w,vs,h,_,_,_=>by
  refine⟨w,by simp[storeCells],⟨rfl,rfl,rfl⟩,fun _ _=>rfl,vs,h,rfl,fun k=>?_⟩;rw[if_neg (by simp)]
 |x::r,i,w,vs,h,hf,hl,hx=>by
  simp only[List.length_cons]at hl;have h1:=Po (P:=P) h (o:=o+i) (x:=x) (by omega) hf (hx x (by simp));have h2:=Ui (o:=o+i) (x:=x) h;obtain⟨w',g1,g2,g3,dH,g4,g5,g6⟩:=wQ b o elem fz r (i+1) (w.setCell ⟨b,o+i,none⟩ x) _ h2 (by simpa using hf)
   (by simp;omega) (fun y hy=>hx y (by simp[hy]))
  refine⟨w', ?_,⟨by rw[g2.1,Uj],g2.2.1,g2.2.2⟩,fun b' xQ=>by rw[g3 b' xQ,Wu (by exact Ne.symm xQ)],dH,g4,by simpa using g5,fun k=>?_⟩
  ·simp only[storeCells,add_plain,ji,h1,gm,g1]
  rw[g6 k];simp only[List.length_cons,Array.getElem?_setIfInBounds];by_cases hk:o+(i+1)<=k/\k<o+(i+1)+r.length
  ·rw[if_pos hk,if_pos (by omega)];obtain⟨j,rfl⟩: ∃j,k=o+i+(j+1):=⟨k-(o+i+1),by omega⟩;rw[show o+i+(j+1)-(o+(i+1))=j from by omega,show o+i+(j+1)-(o+i)=j+1 from by omega];rfl
  rw[if_neg hk];by_cases Tk:o+i=k
  ·subst Tk;rw[if_pos rfl,if_pos (by omega),if_pos (by omega)];simp
  rw[if_neg Tk,if_neg (by omega)]
theorem AV.cC{x:AV}{v:Value}(hx:RA w H ι Im x v)(hs:x.Bu=true):
  x.cells.length=v.cells.size/\(∀ y∈x.cells,y.kv=true)/\(∀ u∈v.cells.toList,s7 u=true)/\
  ∀(i:Nat) y u,x.cells[i]? =some y->v.cells.toList[i]? =some u->RA w H ι Im y u:=by
 have one:x.kv=true->x.cells=[x]->
   x.cells.length=v.cells.size/\(∀ y∈x.cells,y.kv=true)/\(∀ u∈v.cells.toList,s7 u=true)/\
   ∀(i:Nat) y u,x.cells[i]? =some y->v.cells.toList[i]? =some u->RA w H ι Im y u:=by
  intro hf e1;have ho:=hx.s7 hf;have e2:v.cells= #[v]:=by cases v<;>first|rfl|cases ho
  rw[e1,e2];refine⟨rfl,by simpa using hf,by simpa using ho,fun i y u hy hu=>?_⟩;cases i with
  |zero=>simp at hy hu;subst hy hu;exact hx
  |succ i=>simp at hy
 have many: ∀(c:List AV)(vs:List Value),c.length=vs.length->(∀ x∈c,x.kv=true)->
   (∀(i:Nat) x v,c[i]? =some x->vs[i]? =some v->RA w H ι Im x v)-> ∀u∈vs,s7 u=true:=by
  intro c vs hl hf h u hu;obtain⟨i,hi⟩:=jz hu;have:i<c.length:=by
   have:=(qG hi).1;omega
  exact(h i c[i] u (by simp) hi).s7 (hf _ (by simp))
 cases hx with
 |undef=>cases hs
 |xS=>cases hs
 |pv p v h=>
  by_cases hp:p.kv=true
  ·exact one hp (by cases p<;>first|rfl|cases hp)
  cases h with
  |agg c vs hl hf h=>
   have h' : ∀(i:Nat) x v,(c.map AV.pv)[i]? =some x->vs[i]? =some v->RA w H ι Im x v:=fun i y u hy hu=>by
    simp only[List.getElem?_map,yi]at hy;obtain⟨p,hp,rfl⟩:=hy;exact .pv _ _ (h i p u hp hu)
   have Yu: ∀y∈c.map AV.pv,y.kv=true:=fun y hy=>by
    simp only[List.mem_map]at hy;obtain⟨p,hp,rfl⟩:=hy;exact hf p hp
   exact⟨by simpa[AV.cells,Value.cells]using hl,Yu,many _ vs (by simpa using hl) Yu h',h'⟩
  |_=>exact absurd rfl hp
 |agg c vs hl hf h=>exact⟨by simpa[AV.cells,Value.cells]using hl,hf,many c vs hl hf h,h⟩
 |_=>exact one rfl rfl
theorem kp{α:Type}(c xs:List α)(o k:Nat)(ho:o+xs.length<=c.length):
  (c.take o++xs++c.drop (o+xs.length))[k]? =if o<=k/\k<o+xs.length then xs[k-o]? else c[k]? :=by
 have hl:(c.take o).length=o:=by simp;omega
 by_cases h1:k<o
 ·rw[if_neg (by omega),List.append_assoc,List.getElem?_append_left (by omega),List.getElem?_take_of_lt h1]
 by_cases h2:k<o+xs.length
 ·rw[if_pos (by omega),List.getElem?_append_left (by simp;omega),List.getElem?_append_right (by omega),hl]
 rw[if_neg (by omega),List.getElem?_append_right (by simp;omega),List.getElem?_drop];congr 1;simp only[List.length_append,hl];omega
theorem iX{t:TypeId}{ti:TI}(ht:zx P t ti)(a:Addr)(v:Value)(hs:v.cells.size=ti.size):
  (Instr.storeAt t (.pointer (some a)) v).run P w=(storeCells a v.cells.toList).run P w:=by
 unfold Instr.storeAt Instr.sureAddr storeVar;simp[ht.size,hs]
theorem VS{t:TypeId}{ti:TI}(ht:zx P t ti)(hi:qW w H ι Im){y:AV}{va vv:Value}{β zF i o:Nat}(hx:RA w H ι Im (.yT β zF i o) va)
  (c1:y.cells.length=vv.cells.size) (c2: ∀x∈y.cells,x.kv=true) (c3: ∀u∈vv.cells.toList,s7 u=true)
  (c4: ∀(i:Nat) x u,y.cells[i]? =some x->vv.cells.toList[i]? =some u->RA w H ι Im x u) (hlen:y.cells.length=ti.size)
  {sz:Nat} {es:List (List AV)} (hb:H.get β=some (.yq sz es)) {ws:List (Nat×qD)} (hr:lN sz β zF i o ti.size y.cells es=some ws):
  ∃w' ι',(Instr.storeAt t va vv).run P w= .ok () w' /\qW w' (qS ws H) ι' Im/\w8 w H ι Im w' (qS ws H) ι' Im/\
   ∃β b b',ws=[(β,b')]/\H.get β=some b:=by
 unfold lN at hr;cases hr
theorem mM{ks:List Sk}{i x:Nat}(h:x∈(ks.set i .leaf).flatMap Sk.blocks):x∈ks.flatMap Sk.blocks:=by
 rw[List.mem_flatMap]at h |-;obtain⟨k,hk,hx⟩:=h;rcases List.mem_or_eq_of_mem_set hk with h|h
 ·exact⟨k,h,hx⟩
 subst h;simp[Sk.blocks]at hx
theorem Zl: ∀{ks:List Sk}{i:Nat},(ks.flatMap Sk.blocks).Nodup->((ks.set i .leaf).flatMap Sk.blocks).Nodup
 |[],i,h=>by simp
 |k::r,0,h=>by
  simp only[List.set_cons_zero,List.flatMap_cons,Sk.blocks,List.nil_append];rw[List.flatMap_cons,List.nodup_append]at h;exact h.2.1
 |k::r,i+1,h=>by
  rw[List.set_cons_succ,List.flatMap_cons,List.nodup_append];rw[List.flatMap_cons,List.nodup_append]at h;exact⟨h.1,Zl h.2.1,fun a ha b hb=>h.2.2 a ha b (mM hb)⟩
theorem Dm{t:TypeId}{ti:TI}(ht:zx P t ti)(hi:qW w H ι Im){y:AV}{va vv:Value}{β zF i o:Nat}(hx:RA w H ι Im (.yT β zF i o) va)(hy:RA w H ι Im y vv)
  {ds:List Nat} {es:List PV} {i6:Option (Nat×Nat×Nat)} (hb:H.get β=some (.jI false ds es i6)) {ws:List (Nat×qD)} (hr:Zr β zF i o ti.size y ds es i6=some ws):
  ∃w' ι',(Instr.storeAt t va vv).run P w= .ok () w' /\qW w' (qS ws H) ι' Im/\w8 w H ι Im w' (qS ws H) ι' Im/\
   ∃β b b',ws=[(β,b')]/\H.get β=some b:=by
 unfold Zr at hr;split at hr;rotate_left
 ·cases hr
 rename_i γ fv n;split at hr;rotate_left
 ·cases hr
 rename_i hc;obtain⟨xU,fD,rfl,bO,rfl,E2⟩:=hc;simp only[kX]at hr;subst hr;have hvv:va= .pointer (some ⟨(ι β).b,i*1+0,none⟩):=by
  cases hx with
  |yT _ _ _ _ b1 o1 b xQ hv h=>
   rw[hb]at xQ;cases xQ;obtain⟨rfl,rfl⟩:=h _ _ _ rfl xU rfl;rfl
 subst hvv;rw[show i*1+0=i by omega];have Z9:s7 vv=true:=by
  cases hy with
  |row _ _ _ _ _ _ ho=>exact ho
 have lY:vv.cells= #[vv]:=by cases vv<;>first|rfl|cases Z9
 obtain⟨vs,elem,fz,h1,h2,h3,h4,h5,h6,h7,h8,h9⟩:=hi.jI hb;obtain⟨w',g1,g2,g3,dH,g4,g5,g6⟩:=wQ (P:=P) (ι β).b i elem fz vv.cells.toList 0 w vs h1 h2 (by simp[lY];omega) (by simpa[lY]using Z9);rw[iX ht _ _ (by rw[lY,bO];rfl)];have hw: ∀b,Im b->w'.heap[b]? =w.heap[b]? :=fun b xQ=>g3 b (fun e=>hi.KJ β _ b hb ⟨rfl,.inl e⟩ xQ);obtain⟨DO,To⟩:=List.nodup_cons.1 h6;refine⟨w',jj ι β ⟨(ι β).b,(ι β).cap,(ι β).ks.set i .leaf⟩,g1, ?_⟩;have key:=qW.MP hi (w' :=w') β (.jI false ds es (some (i,γ,n))) ⟨(ι β).b,(ι β).cap,(ι β).ks.set i .leaf⟩
  (fun x hx=>by rw[hb]at hx;cases hx;simp[xi,qD.sh,Pl.ka])
  ⟨by omega,g2.2⟩ (fun b' _ jv=>g3 b' (fun e=>jv _ hb ⟨rfl,.inl e⟩)) (fun z hz=> .inr ⟨_,hb,rfl,hz.2.imp id fun h=>⟨rfl,mM h.2⟩⟩) (fun bM=>by
   refine⟨dH,elem,fz,by simpa using g4,by rw[g5];exact h2,by rw[g5,h3];simp,by simpa using h4,by simpa using h5, ?_,fun x hx=>?_,fun j γ' ver' hf=>?_,fun i' p k hp hk=>?_⟩
   ·simp only[jT]
    exact List.nodup_cons.2 ⟨fun h=>DO (mM h),Zl To⟩
   ·simp only[jT]at hx
    rw[g2.1]
    exact h7 x (mM hx)
   ·cases hf
    exact fD
   simp only[jT]at hk
   have hg6:=g6 i'
   simp only[lY,Nat.add_zero,Array.length_toList,List.size_toArray,List.length_cons,List.length_nil,Nat.zero_add]at hg6
   by_cases BJ:i=i'
   ·subst BJ
    rw[if_pos (by omega)]at hg6
    simp only[Nat.sub_self,List.getElem?_cons_zero]at hg6
    refine⟨vv,hg6,fun h=>absurd rfl (h _ _ _ rfl),fun γ' ver' hf=>?_⟩
    cases hf
    rw[List.getElem?_set_self (by omega)]at hk
    cases hk
    exact⟨rfl,hy.mono hi bM⟩
   rw[if_neg (by omega)]at hg6
   rw[List.getElem?_set_ne BJ]at hk
   obtain⟨v0,k1,k2,k3⟩:=h9 i' p k hp hk
   refine⟨v0,by rw[hg6];exact k1,fun _=>?_,fun γ' ver' hf=>by cases hf;exact absurd rfl BJ⟩
   refine(k2 fun j γ' ver' hf e=>?_).mono bM.im hw fun x hx=>g3 x fun e=>?_
   ·subst e
    rw[hf]at E2
    simp only[Yk,decide_eq_true_eq]at E2
    exact BJ E2.symm
   subst e
   exact DO (List.mem_flatMap.2 ⟨k,qX hk,hx⟩))
 exact⟨key.1,key.2,β,_,_,rfl,hb⟩
theorem Sd{t:TypeId}{ti:TI}(ht:zx P t ti)(hi:qW w H ι Im){x y:AV}{va vv:Value}(hx:RA w H ι Im x va)(hy:RA w H ι Im y vv)
  {ws:List (Nat×qD)} (hr:e9 ti x y H=some ws):
  ∃w' ι',(Instr.storeAt t va vv).run P w= .ok () w' /\qW w' (qS ws H) ι' Im/\w8 w H ι Im w' (qS ws H) ι' Im/\
   ∃β b b',ws=[(β,b')]/\H.get β=some b:=by
 unfold e9 at hr;split at hr;rotate_left
 ·cases hr
 rename_i hc;obtain⟨XH,hlen⟩:=hc;obtain⟨c1,c2,c3,c4⟩:=AV.cC hy XH;have bO:vv.cells.size=ti.size:=by omega
 split at hr
 ·rename_i β o;split at hr
  ·rename_i c hb;split at hr;rotate_left
   ·cases hr
   rename_i ho;simp only[kX]at hr;subst hr;cases hx;obtain⟨vs,elem,fz,h1,h2,h3,h4,h5⟩:=hi.box hb;obtain⟨w',g1,g2,g3,dH,g4,g5,g6⟩:=wQ (P:=P) (ι β).b o elem fz vv.cells.toList 0 w vs h1 h2 (by simp;omega) c3;rw[iX ht _ _ bO];refine⟨w',jj ι β (ι β),g1, ?_⟩;rw[<- hlen]at ho |-;have key:=qW.put (Qh:=TM hb rfl) hi (w' :=w') β (.box (c.take o++y.cells++c.drop (o+y.cells.length))) (ι β) (fun x hx=>by rw[hb]at hx;cases hx;rfl)
    ⟨by omega,g2.2⟩ (fun b' _ jv=>g3 b' (fun e=>jv _ hb rfl e.symm)) (fun _=> .inr ⟨_,hb,rfl,rfl⟩) (fun he=>by
     refine⟨dH,elem,fz,by simpa using g4,by rw[g5];exact h2,by simp;omega, ?_, ?_⟩
     ·intro x hx
      simp only[List.mem_append]at hx
      rcases hx with (hx|hx)|hx
      ·exact h4 x (List.mem_of_mem_take hx)
      ·exact c2 x hx
      exact h4 x (List.mem_of_mem_drop hx)
     intro i x v hx hv
     rw[kp c y.cells o i ho]at hx
     rw[g6 i]at hv
     simp only[Nat.add_zero,Array.length_toList,<- c1]at hv
     refine RA.mono hi he ?_
     split at hx
     ·rename_i hc
      rw[if_pos hc]at hv
      exact c4 _ x v hx hv
     rename_i hc
     rw[if_neg hc]at hv
     exact h5 i x v hx hv)
   exact⟨key.1,key.2,β,_,_,rfl,hb⟩
  cases hr
 ·rename_i β zF i o;split at hr
  ·rename_i ps C3;split at hr
   ·rename_i sz es hb;split at hr;rotate_left
    ·cases hr
    rename_i xU;split at hr;rotate_left
    ·cases hr
    rename_i e he;split at hr;rotate_left
    ·cases hr
    rename_i ho;simp only[kX]at hr;subst hr;have hvv:va= .pointer (some ⟨(ι β).b,i*sz+o,none⟩):=by
     cases hx with
     |yT _ _ _ _ b1 o1 b xQ hv h=>
      rw[hb]at xQ;cases xQ;obtain⟨rfl,rfl⟩:=h _ _ _ rfl xU rfl;rfl
    subst hvv;obtain⟨vs,elem,fz,h1,h2,h3,h4,h5,h6,h7,h8⟩:=hi.row hb;have hps' :=ea C3;have sI:ps.length=ti.size:=by rw[<- hlen,hps'];simp
    have fD:i<es.length:=(qG he).1;have Yt:e.length=sz:=h6 e (qX he);have sG:i*sz+sz<=vs.size:=by
     rw[h3,<- Nat.succ_mul];exact mulR _ (by omega)
    obtain⟨w',g1,g2,g3,dH,g4,g5,g6⟩:=wQ (P:=P) (ι β).b (i*sz+o) elem fz vv.cells.toList 0 w vs h1 h2 (by simp;omega) c3;rw[iX ht _ _ bO];refine⟨w',jj ι β (ι β),g1, ?_⟩;rw[<- sI]at ho |-;have nO: ∀(i' :Nat) e',(es.set i (e.take o++ps++e.drop (o+ps.length)))[i']? =some e' ->
      (i' =i/\e' =e.take o++ps++e.drop (o+ps.length))\/(i' ≠i/\es[i']? =some e'):=by
     intro i' e' h;rw[List.getElem?_set]at h;by_cases BJ:i=i'
     ·subst BJ;simp[fD]at h;exact .inl ⟨rfl,by rw[<- h];simp⟩
     simp[BJ]at h;exact .inr ⟨Ne.symm BJ,h⟩
    have hpf: ∀(j:Nat) p,ps[j]? =some p->p.kv=true/\ ∀u,vv.cells.toList[j]? =some u->RP w Im p u:=by
     intro j p hp;have hy:y.cells[j]? =some (.pv p):=by rw[hps'];simp[hp]
     refine⟨c2 _ (qX hy),fun u hu=>?_⟩;have:=c4 j _ u hy hu;cases this;assumption
    have key:=qW.put (Qh:=TM hb rfl) hi (w' :=w') β (.row false sz (es.set i (e.take o++ps++e.drop (o+ps.length)))) (ι β)
     (fun x hx=>by rw[hb]at hx;cases hx;simp[xi,qD.sh,Pl.ka])
     ⟨by omega,g2.2⟩ (fun b' _ jv=>g3 b' (fun e=>jv _ hb rfl e.symm)) (fun _=> .inr ⟨_,hb,rfl,rfl⟩) (fun bM=>by
      have hw: ∀b,Im b->w'.heap[b]? =w.heap[b]? :=fun b hb=>bM.Qo hi b hb
      refine⟨dH,elem,fz,by simpa using g4,by rw[g5];exact h2,by rw[g5,h3];simp,h4,by simpa using h5, ?_, ?_, ?_⟩
      ·intro e' W8
       obtain⟨i',vq⟩:=jz W8
       rcases nO i' e' vq with ⟨_,rfl⟩|⟨_,h⟩
       ·simp;omega
       exact h6 e' (qX h)
      ·intro i' e' j p vq hj
       rcases nO i' e' vq with ⟨_,rfl⟩|⟨_,h⟩
       ·rw[kp e ps o j ho]at hj
        split at hj
        ·exact(hpf _ p hj).1
        exact h7 i e j p he hj
       exact h7 i' e' j p h hj
      intro i' e' j p vq hj
      have M3:j<sz:=by
       rcases nO i' e' vq with ⟨_,rfl⟩|⟨_,h⟩
       ·have:=(qG hj).1
        simp at this
        omega
       have:=(qG hj).1
       have:=h6 e' (qX h)
       omega
      rw[g6]
      simp only[Nat.add_zero,Array.length_toList]
      have Et:vv.cells.size=ps.length:=by omega
      rw[Et]
      rcases nO i' e' vq with ⟨rfl,rfl⟩|⟨jv,h⟩
      ·rw[kp e ps o j ho]at hj
       split at hj
       ·rename_i hc
        rw[if_pos (by omega),show i' *sz+j-(i' *sz+o)=j-o from by omega]
        obtain⟨u,hu⟩: ∃u,vv.cells.toList[j-o]? =some u:=⟨vv.cells.toList[j-o]'(by simp;omega),by simp⟩
        exact⟨u,hu,((hpf _ p hj).2 u hu).mono bM.im hw⟩
       rename_i hc
       rw[if_neg (by omega)]
       obtain⟨u,hu,hr⟩:=h8 i' e j p he hj
       exact⟨u,hu,hr.mono bM.im hw⟩
      obtain⟨u,hu,hr⟩:=h8 i' e' j p h hj
      have Za: ¬(i*sz+o<=i' *sz+j/\i' *sz+j<i*sz+o+ps.length):=by
       rcases Nat.lt_or_gt_of_ne jv with xB|BH
       ·have:(i' +1)*sz<=i*sz:=mulR _ xB
        rw[Nat.succ_mul]at this
        omega
       have:(i+1)*sz<=i' *sz:=mulR _ BH
       rw[Nat.succ_mul]at this
       omega
      rw[if_neg Za]
      exact⟨u,hu,hr.mono bM.im hw⟩)
    exact⟨key.1,key.2,β,_,_,rfl,hb⟩
   ·rename_i sz es hb;exact VS ht hi hx c1 c2 c3 c4 hlen hb hr
   cases hr
  split at hr
  ·rename_i sz es hb;exact VS ht hi hx c1 c2 c3 c4 hlen hb hr
  ·rename_i ds es i6 hb;exact Dm ht hi hx hy hb hr
  cases hr
 cases hr
end
section
variable [zN] {P:Program} {w:World} {H:qn} {ι:vG} {Im:Nat->Prop}
theorem zx.struct{t:TypeId}{ti:TI}(ht:zx P t ti){fs:List (Nat×Nat×TypeId)}(h:ti.td= .struct fs):
  ∃fields,P.underlying t=some (.struct fields)/\fs=fields.toList.map fun f=>(f.offset,P.cellsOf f.type,f.type):=by
 obtain⟨d,h1,h2⟩:=ht.Lb;rw[h]at h2;cases d<;>simp[Xx]at h2;exact⟨_,h1,h2.symm⟩
theorem zx.array{t:TypeId}{ti:TI}(ht:zx P t ti){n:Nat}{e:TypeId}(h:ti.td= .array n e):P.underlying t=some (.array n e):=by
 obtain⟨d,h1,h2⟩:=ht.Lb;rw[h]at h2;cases d<;>simp[Xx]at h2;obtain⟨rfl,rfl⟩:=h2;exact h1
theorem zx.slice{t:TypeId}{ti:TI}(ht:zx P t ti){e:TypeId}(h:ti.td= .slice e):P.underlying t=some (.slice e):=by
 obtain⟨d,h1,h2⟩:=ht.Lb;rw[h]at h2;cases d<;>simp[Xx]at h2;obtain rfl:=h2;exact h1
theorem zx.map{t:TypeId}{ti:TI}(ht:zx P t ti){k e:TypeId}(h:ti.td= .map k e):P.underlying t=some (.map k e):=by
 obtain⟨d,h1,h2⟩:=ht.Lb;rw[h]at h2;cases d<;>simp[Xx]at h2;obtain⟨rfl,rfl⟩:=h2;exact h1
theorem zx.int{t:TypeId}{ti:TI}(ht:zx P t ti){k:IntKind}(h:ti.td= .int k):P.underlying t=some (.int k):=by
 obtain⟨d,h1,h2⟩:=ht.Lb;rw[h]at h2;cases d<;>simp[Xx]at h2;obtain rfl:=h2;exact h1
theorem zx.string{t:TypeId}{ti:TI}(ht:zx P t ti)(h:ti.td= .string):P.underlying t=some .string:=by
 obtain⟨d,h1,h2⟩:=ht.Lb;rw[h]at h2;cases d<;>simp[Xx]at h2;exact h1
theorem zx.bool{t:TypeId}{ti:TI}(ht:zx P t ti)(h:ti.td= .bool):P.underlying t=some .bool:=by
 obtain⟨d,h1,h2⟩:=ht.Lb;rw[h]at h2;cases d<;>simp[Xx]at h2;exact h1
theorem Ya{t:TypeId}(h:0<P.cellsOf t):(sizeOf t).run P w= .ok (P.cellsOf t) w:=by
 unfold Program.cellsOf at h |-;cases hi:P.info? t with
 |none=>simp[hi]at h
 |some i=>simp[sizeOf,uQ hi]
theorem zx.cellsOf{t:TypeId}{ti:TI}(ht:zx P t ti):P.cellsOf t=ti.size:=by
 obtain⟨i,z,h1,h2,_⟩:=ht.info;simp[Program.cellsOf,h1,h2]
theorem tn(b o:Nat)(f:Field)(h:0<P.cellsOf f.type):(fieldPlace ⟨b,o,none⟩ f).run P w= .ok ⟨b,o+f.offset,none⟩ w:=by
 unfold fieldPlace;have: ¬P.cellsOf f.type=0:=by omega
 simp[Ya h,this,add_plain]
theorem KW{t:TypeId}{ti:TI}(ht:zx P t ti){x:AV}{v:Value}(hx:RA w H ι Im x v)
  {f:Nat} {r:AV} (hr:e8 ti.td x f=some r): ∃u,(Instr.fieldAt t v f).run P w= .ok u w/\RA w H ι Im r u:=by
 unfold e8 at hr;split at hr;rotate_left
 ·cases hr
 rename_i fs xr;obtain⟨fields,hu,rfl⟩:=ht.struct xr;split at hr;rotate_left
 ·cases hr
 rename_i o' s te hf;split at hr;rotate_left
 ·cases hr
 rename_i hs;simp only[List.getElem?_map,yi]at hf;obtain⟨fd,hf,hfe⟩:=hf;simp only[Prod.mk.injEq]at hfe;obtain⟨rfl,rfl,rfl⟩:=hfe;have hfa:fields[f]? =some fd:=by rw[<- hf];simp
 unfold Instr.fieldAt Instr.sureAddr;split at hr
 ·rename_i β o;cases hr;cases hx with
  |ptr _ _ c hb hk=>
   refine⟨.pointer (some ⟨(ι β).b,o+fd.offset,none⟩), ?_,.ptr β _ c hb hk⟩;simp[qv hu,hfa,tn _ _ fd hs]
 ·rename_i β zF j o;cases hr;cases hx with
  |yT _ _ _ _ b' o' b hb xU h=>
   refine⟨.pointer (some ⟨b',o' +fd.offset,none⟩), ?_,.yT β zF j _ b' _ b hb xU fun qq sz es e hv hn=>?_⟩
   ·simp[qv hu,hfa,tn _ _ fd hs]
   obtain⟨g1,g2⟩:=h qq sz es e hv hn;exact⟨g1,by omega⟩
 ·rename_i c o;cases hr;cases hx with
  |mS _ _ b off vs oJ hc hf h=>
   refine⟨.pointer (some ⟨b,off+o+fd.offset,none⟩), ?_, ?_⟩
   ·simp[qv hu,hfa,tn _ _ fd hs]
   rw[Nat.add_assoc];exact .mS c _ b off vs oJ hc hf h
 ·rename_i c;cases hr;cases hx with
  |pv _ _ h=>cases h with
   |rp _ b off vs oJ hc hf h=>
    refine⟨.pointer (some ⟨b,off+fd.offset,none⟩), ?_,.mS c _ b off vs oJ hc hf h⟩;simp[qv hu,hfa,tn _ _ fd hs]
 cases hr
theorem Qv{x:AV}{v:Value}(hx:RA w H ι Im x v){k:Nat}(h:wW x=some k): ∃kd,v= .int kd (k:Int):=by
 unfold wW at h;split at h
 ·split at h<;>cases h;rename_i kd n hn;cases hx with
  |pv _ _ h=>
   cases h;exact⟨kd,by rw[Int.toNat_of_nonneg hn]⟩
 cases h
theorem KX{G:TypeId->Option TI}(hG: ∀t ti,G t=some ti->zx P t ti){t:TypeId}{ti:TI}(ht:zx P t ti)(hi:qW w H ι Im)
  {x y:AV} {v u:Value} (hx:RA w H ι Im x v) (hy:RA w H ι Im y u) {r:AV} (hr:mJ ti.td G x y H=some r):
  ∃z,(Instr.indexAt t v u).run P w= .ok z w/\RA w H ι Im r z:=by
 unfold mJ at hr;split at hr
 ·cases hr
 rename_i k hk;obtain⟨kd,rfl⟩:=Qv hy hk;split at hr
 ·rename_i e xr;have hu:=ht.slice xr;split at hr
  ·cases hr
  rename_i te rE;have tU:=hG _ _ rE;split at hr
  ·rename_i qq sz es;split at hr;rotate_left
   ·cases hr
   rename_i bO;split at hr<;>cases hr;rename_i c hc;have mF:k<es.length:=(qG hc).1;cases hx with
   |pv _ _ h=>cases h with
    |cK sz=>simp at mF
    |sl _ _ b off cap vs oJ Xk hs JH hf h sp Tr=>
     obtain rfl:=Tr (by intro e;subst e;simp at mF);refine⟨.pointer (some ⟨b,off+k*sz,none⟩), ?_, ?_⟩
     ·unfold Instr.indexAt asIntOf;simp[qv hu,mF,tU.size,add_plain,bO]
     have:=RA.mS (w:=w) (H:=H) (ι:=ι) (Im:=Im) c 0 b (off+k*sz) (fun j=>vs (k*sz+j)) (oJ (by intro e;subst e;simp at mF)) (fun j hj=>?_) (fun p hp=>?_) (fun j p hp=>h k c j p hc hp)
     ·simpa using this
     ·have BG:=hs c (qX hc);rw[Nat.add_assoc];refine JH _ ?_;have:(k+1)*sz<=es.length*sz:=mulR _ mF;rw[Nat.succ_mul]at this;omega
     obtain⟨j,hj⟩:=jz hp;exact hf k c j p hc hj
  ·rename_i β zF off n;split at hr
   ·rename_i sz es hb;split at hr<;>cases hr;rename_i hc;obtain⟨xU,bO,hkn⟩:=hc;cases hx with
    |row _ _ _ _ _ b ho xQ QO hver' h=>
     rw[hb]at xQ;cases xQ;obtain⟨h1,h2⟩:=h _ _ _ rfl xU;simp only[w9,if_false]at h2;obtain⟨a,rfl,fS,dS,eY⟩:=h2;obtain⟨vs,elem,fz,g1,g2,g3,g4,g5,_⟩:=hi.row hb;have ha4:=eY (by omega);obtain⟨ab,ao,T9⟩:=a;simp only at fS dS ha4;subst fS dS ha4;refine⟨.pointer (some ⟨(ι β).b,off*sz+k*sz,none⟩), ?_,.yT β zF (off+k) 0 _ _ _ hb (fun _ _ _ e=>by cases e;omega) fun _ _ _ e _ _=>?_⟩
     ·unfold Instr.indexAt asIntOf;simp[qv hu,hkn,tU.size,add_plain,bO]
     cases e;exact⟨rfl,by rw[Nat.add_mul];rfl⟩
   ·rename_i sz es hb;split at hr<;>cases hr;rename_i hc;obtain⟨xU,bO,hkn⟩:=hc;cases hx with
    |row _ _ _ _ _ b ho xQ QO hver' h=>
     rw[hb]at xQ;cases xQ;obtain⟨h1,h2⟩:=h _ _ _ rfl xU;simp only[w9,if_false]at h2;obtain⟨a,rfl,fS,dS,eY⟩:=h2;obtain⟨vs,elem,fz,g1,g2,g3,g4,g5,_⟩:=hi.yq hb;have ha4:=eY (by omega);obtain⟨ab,ao,T9⟩:=a;simp only at fS dS ha4;subst fS dS ha4;refine⟨.pointer (some ⟨(ι β).b,off*sz+k*sz,none⟩), ?_,.yT β zF (off+k) 0 _ _ _ hb (fun _ _ _ e=>by cases e;omega) fun _ _ _ e _ _=>?_⟩
     ·unfold Instr.indexAt asIntOf;simp[qv hu,hkn,tU.size,add_plain,bO]
     cases e;exact⟨rfl,by rw[Nat.add_mul];rfl⟩
   ·rename_i ds es i6 hb;split at hr<;>cases hr;rename_i hc;obtain⟨xU,bO,hkn⟩:=hc;cases hx with
    |row _ _ _ _ _ b ho xQ QO hver' h=>
     rw[hb]at xQ;cases xQ;obtain⟨h1,h2⟩:=h _ _ _ rfl xU;simp only[w9,if_false]at h2;obtain⟨a,rfl,fS,dS,eY⟩:=h2;obtain⟨vs,elem,fz,g1,g2,g3,g4,_⟩:=hi.jI hb;have ha4:=eY (by omega);obtain⟨ab,ao,T9⟩:=a;simp only at fS dS ha4;subst fS dS ha4;refine⟨.pointer (some ⟨(ι β).b,off*1+k*1,none⟩), ?_,.yT β zF (off+k) 0 _ _ _ hb (fun _ _ _ e=>by cases e;omega) fun _ _ _ e _ _=>?_⟩
     ·unfold Instr.indexAt asIntOf;simp[qv hu,hkn,tU.size,add_plain,bO]
     cases e;exact⟨rfl,by rw[Nat.add_mul];rfl⟩
   cases hr
  cases hr
 ·rename_i len e xr;have hu:=ht.array xr;split at hr
  ·cases hr
  rename_i te rE;have tU:=hG _ _ rE;split at hr;rotate_left
  ·cases hr
  rename_i mF;split at hr
  ·rename_i β o;cases hr;cases hx with
   |ptr _ _ c hb hk=>
    refine⟨.pointer (some ⟨(ι β).b,o+k*te.size,none⟩), ?_,.ptr β _ c hb hk⟩;unfold Instr.indexAt asIntOf Instr.sureAddr;simp[qv hu,mF,tU.size,add_plain]
  ·rename_i β zF j o;cases hr;cases hx with
   |yT _ _ _ _ b' o' b hb xU h=>
    refine⟨.pointer (some ⟨b',o' +k*te.size,none⟩), ?_,.yT β zF j _ b' _ b hb xU fun qq sz es e hv hn=>?_⟩
    ·unfold Instr.indexAt asIntOf Instr.sureAddr;simp[qv hu,mF,tU.size,add_plain]
    obtain⟨g1,g2⟩:=h qq sz es e hv hn;exact⟨g1,by omega⟩
  ·rename_i c o;cases hr;cases hx with
   |mS _ _ b off vs oJ hc hf h=>
    refine⟨.pointer (some ⟨b,off+o+k*te.size,none⟩), ?_, ?_⟩
    ·unfold Instr.indexAt asIntOf Instr.sureAddr;simp[qv hu,mF,tU.size,add_plain]
    rw[Nat.add_assoc];exact .mS c _ b off vs oJ hc hf h
  cases hr
 cases hr
theorem Hs{t:TypeId}{ti:TI}(ht:zx P t ti){x:AV}{v:Value}(hx:RA w H ι Im x v){off:Nat}{r:AV}
  (hr:Hr ti x off=some r): ∃cs u,v= .agg cs/\(part t cs off).run P w= .ok u w/\RA w H ι Im r u:=by
 have key: ∀(c:List AV)(vs:List Value),c.length=vs.length->(∀ x∈c,x.kv=true)->
   (∀(i:Nat) x v,c[i]? =some x->vs[i]? =some v->RA w H ι Im x v)->DY ti (c.drop off)=some r-> ∃u,(part t ⟨vs⟩ off).run P w= .ok u w/\RA w H ι Im r u:=by
  intro c vs hl hf h hr;unfold DY at hr;unfold part;simp only[ji,ht.isAgg,gm];by_cases ha:ti.isAgg=true
  ·simp only[ha,if_true]at hr |-;split at hr<;>cases hr;rename_i hlen;refine⟨.agg ⟨(vs.drop off).take ti.size⟩,by simp[ht.size],iP (by simp;omega) (fun x hx=>hf x (List.mem_of_mem_drop (List.mem_of_mem_take hx))) ?_⟩;intro i x v h1 h2;by_cases hi:i<ti.size
   ·rw[List.getElem?_take_of_lt hi,List.getElem?_drop]at h1 h2;exact h _ x v h1 h2
   have:=(qG h1).1;simp at this;omega
  simp only[ha,w9,if_false]at hr |-;split at hr<;>cases hr;rename_i x r' hd;have hx:c[off]? =some r:=by
   have:=congrArg (fun l=>l[0]?) hd;simpa using this
  have xB:off<vs.length:=by rw[<- hl];exact(qG hx).1
  refine⟨vs[off], ?_,h off r _ hx (by simp[xB])⟩;have:(⟨vs⟩:Array Value)[off]? =some vs[off]:=by simp[xB]
  simp[this]
 unfold Hr at hr;split at hr
 ·rename_i c;cases hx with
  |pv _ _ h=>cases h with
   |agg _ vs hl hf h=>
    have Lz:DY ti ((c.map AV.pv).drop off)=some r:=by
     rw[<- List.map_drop];unfold ldP at hr;unfold DY;by_cases ha:ti.isAgg=true
     ·simp only[ha,if_true,List.length_map]at hr |-;split at hr<;>cases hr;rename_i hlen;rw[if_pos hlen,<- List.map_take];congr 1;unfold ZS;have: ∀l:List PV,iq (l.map AV.pv)=some l:=by
       intro l;induction l with
       |nil=>rfl
       |cons x r ih=>simp[iq,ih]
      rw[this]
     simp only[ha,w9,if_false]at hr |-;split at hr<;>cases hr;rename_i x r' hd;simp[hd]
    obtain⟨u,g1,g2⟩:=key (c.map .pv) vs (by simpa using hl) (fun y hy=>by
     simp only[List.mem_map]at hy
     obtain⟨p,hp,rfl⟩:=hy
     exact hf p hp) (fun i y u hy hu=>by
     simp only[List.getElem?_map,yi]at hy
     obtain⟨p,hp,rfl⟩:=hy
     exact .pv _ _ (h i p u hp hu)) Lz
    exact⟨_,u,rfl,g1,g2⟩
 ·rename_i c;cases hx with
  |agg _ vs hl hf h=>
   obtain⟨u,g1,g2⟩:=key c vs hl hf h hr;exact⟨_,u,rfl,g1,g2⟩
 cases hr
end
section
variable [zN] {P:Program} {w:World} {H:qn} {ι:vG} {Im:Nat->Prop}
def Bd(X:Nat->Prop)(H:qn)(nx:Nat):Prop:= ∀β b,H.get β=some b->β<nx\/X β
def mH(X:Nat->Prop)(w:World)(H:qn)(ι:vG)(Im:Nat->Prop)(nx:Nat)(e:bY)(u:Value)(w' :World):Prop:=
 ∃ι',qW w' (qS e.2.1 H) ι' Im/\w8 w H ι Im w' (qS e.2.1 H) ι' Im/\RA w' (qS e.2.1 H) ι' Im e.1 u/\nx<=e.2.2/\
  Bd X (qS e.2.1 H) e.2.2
theorem mH.pure(hi:qW w H ι Im){nx:Nat}{X:Nat->Prop}(xt:Bd X H nx){r:AV}{u:Value}(h:RA w H ι Im r u):
  mH X w H ι Im nx (r,[],nx) u w:=⟨ι,hi,w8.refl _ _ _ _,h,xJ _,xt⟩
theorem JC{nx:Nat}{X:Nat->Prop}(xt:Bd X H nx)(hX: ¬X nx):H.get nx=none:=by
 cases h:H.get nx with
 |none=>rfl
 |some b=>
  rcases xt nx b h with h|h
  ·omega
  exact absurd h hX
theorem ki{nx:Nat}{X:Nat->Prop}(xt:Bd X H nx){γ:Nat}{y:qD}{n:Nat}(hn:nx<=n)(hγ:γ<n\/X γ):Bd X (qS [(γ,y)] H) n:=by
 intro β b h;simp only[qS,qn.qZ]at h;split at h
 ·rename_i e;subst e;exact hγ
 rcases xt β b h with h|h
 ·exact .inl (by omega)
 exact .inr h
theorem sS{X:Nat->Prop}{nx:Nat}(h: ∀γ,X γ->nx+1<=γ): ¬X nx:=fun hx=>by have:=h _ hx;omega
theorem qW.new(hi:qW w H ι Im){nx:Nat}{X:Nat->Prop}(xt:Bd X H nx)(hX: ¬X nx)(w' :World)(y:qD)(o:Obj)(cap:Nat)
  (hw:w'.heap=w.heap.push o) (E7:w'.os=w.os/\w'.output=w.output)
  (eZ: ∀ι',ι' nx=⟨w.heap.size,cap,[]⟩->w8 w H ι Im w' (H.put nx y) ι' Im->pF w' (H.put nx y) ι' Im nx y) (hyO:y.Tx=false:=by rfl):
  ∃ι',ι' nx=⟨w.heap.size,cap,[]⟩/\qW w' (H.put nx y) ι' Im/\w8 w H ι Im w' (H.put nx y) ι' Im:=by
 have hf:=JC xt hX;obtain⟨h1,h2⟩:=qW.put (Qh:=GF hf) (hy:=hyO) hi (w' :=w') nx y ⟨w.heap.size,cap,[]⟩ (fun x hx=>by rw[hf]at hx;cases hx) ⟨by rw[hw];simp,E7⟩
  (fun b hb _=>by rw[hw];simp[Array.getElem?_push,Nat.ne_of_lt hb]) (fun _=> .inl (xJ _))
  (eZ _ (by simp))
 exact⟨_,by simp,h1,h2⟩
theorem xE(n:Nat):wa (0,0) n:=⟨xJ _,fun i _ h=>by simp at h⟩
theorem TK(hi:qW w H ι Im){nx:Nat}{X:Nat->Prop}(xt:Bd X H nx)(hX: ¬X nx)(c:List AV)(vs:List Value)(elem:TypeId)
  (hl:c.length=vs.length) (hf: ∀x∈c,x.kv=true) (h: ∀(i:Nat) x v,c[i]? =some x->vs[i]? =some v->RA w H ι Im x v):
  mH X w H ι Im nx (.ptr nx 0,[(nx,.box c)],nx+1) (.pointer (some ⟨w.heap.size,0,none⟩)) { w with heap:=w.heap.push (.cells ⟨vs⟩ elem) }:=by
 obtain⟨ι',h0,h1,h2⟩:=qW.new hi xt hX { w with heap:=w.heap.push (.cells ⟨vs⟩ elem) } (.box c) (.cells ⟨vs⟩ elem) 0 rfl ⟨rfl,rfl⟩ (fun ι' hp he=>by
  refine⟨⟨vs⟩,elem,(0,0),by simp[hp],xE _,by simpa using hl,hf,fun i x v hx hv=>?_⟩
  exact(h i x v hx (by simpa using hv)).mono hi he)
 refine⟨ι',h1,h2, ?_,by simp,ki xt (by simp) (.inl (by simp))⟩;have hg:(qS [(nx,qD.box c)] H).get nx=some (.box c):=by simp[qS,qn.qZ]
 have:=RA.ptr (w:={ w with heap:=w.heap.push (.cells ⟨vs⟩ elem) }) (ι:=ι') (Im:=Im) nx 0 _ hg rfl;rw[h0]at this;exact this
theorem lK(t:TypeId)(v:Value):(newVar t v).run P w= .ok ⟨w.heap.size,0,none⟩ { w with heap:=w.heap.push (.cells v.cells t) }:=by
 simp[newVar,newRow]
theorem oB{t:TypeId}{ti:TI}(ht:zx P t ti): ∃z,(zeroValue t).run P w= .ok z w/\ti.zero.length=z.cells.size/\
  (∀(i:Nat) p v,ti.zero[i]? =some p->z.cells.toList[i]? =some v->RP w Im p v)/\lC z=ti.td.isAgg:=by
 obtain⟨i,z,h1,h2,h3,h4,h5,h6⟩:=ht.info;obtain⟨g1,g2,g3⟩:=QD (w:=w) (Im:=Im) h5;refine⟨z,by simp[zeroValue,uQ h1,h4],by simpa using g1,g3,h6⟩
theorem S6{t:TypeId}{ti:TI}(ht:zx P t ti)(hi:qW w H ι Im){nx:Nat}{X:Nat->Prop}(xt:Bd X H nx)(hX: ¬X nx):
  ∃u w',(Instr.alloc t true (.tuple #[])).run P w= .ok u w' /\mH X w H ι Im nx (.ptr nx 0,[(nx,.box (ti.zero.map .pv))],nx+1) u w' :=by
 obtain⟨z,h1,h2,h3,_⟩:=oB (w:=w) (Im:=Im) ht;refine⟨_,_, ?_,TK hi xt hX (ti.zero.map .pv) z.cells.toList t (by simpa using h2) (fun x hx=>?_) (fun i x v hx hv=>?_)⟩
 ·unfold Instr.alloc;simp[h1,lK]
 ·simp only[List.mem_map]at hx;obtain⟨p,hp,rfl⟩:=hx;exact ht.kv p hp
 simp only[List.getElem?_map,yi]at hx;obtain⟨p,hp,rfl⟩:=hx;exact .pv _ _ (h3 i p v hp hv)
theorem Nh{G:GP}{t:TypeId}{ti:TI}(ht:zx P t ti)(hi:qW w H ι Im){nx:Nat}{X:Nat->Prop}(xt:Bd X H nx){e:bY}(hr:Q3 G t ti nx=some e)(hX: ∀γ,X γ->e.2.2<=γ):
  ∃u w',(Instr.alloc t true (.tuple #[])).run P w= .ok u w' /\mH X w H ι Im nx e u w' :=by
 unfold Q3 at hr;cases hr
theorem aBox_ok{t:TypeId}(hi:qW w H ι Im){nx:Nat}{X:Nat->Prop}(xt:Bd X H nx)(hX: ¬X nx){x:AV}{v:Value}(hx:RA w H ι Im x v)(hs:x.Bu=true):
  ∃u w',(Instr.box t v).run P w= .ok u w' /\mH X w H ι Im nx (.ptr nx 0,[(nx,.box x.cells)],nx+1) u w' :=by
 obtain⟨c1,c2,c3,c4⟩:=AV.cC hx hs;refine⟨_,_, ?_,TK hi xt hX x.cells v.cells.toList t (by simpa using c1) c2 c4⟩;unfold Instr.box;simp[lK]
theorem A8{t:TypeId}(hi:qW w H ι Im){x:AV}{v:Value}(hx:RA w H ι Im x v)(hs:x.Bu=true){l:List PV}(hl:iq x.cells=some l):
    ∃u w' jA,(Instr.box t v).run P w= .ok u w' /\qW w' H ι jA/\w8 w H ι Im w' H ι jA/\RA w' H ι jA (.pv (.rp l)) u:=by
  obtain⟨c1,c2,c3,c4⟩:=AV.cC hx hs
  have lY:=ea hl
  have hold: ∀b,b<w.heap.size->(w.heap.push (.cells v.cells t))[b]? =w.heap[b]? :=fun b hb=>by simp[Array.getElem?_push,Nat.ne_of_lt hb]
  have he:w8 w H ι Im { w with heap:=w.heap.push (.cells v.cells t) } H ι (fun b=>Im b\/b=w.heap.size):=
    { comp:=fun β b h=>⟨b,h,vV b _⟩
      im:=fun _ h=> .inl h
      mw:=fun b h=>by
        rcases h with h|h
        · exact .inl h
        · exact .inr (.inl (by omega))
      bC:=fun β x z h hu=> .inr ⟨β,x,h,hu⟩
      ka:=fun b hb _=>hold b hb
      size:=by simp
      io:=⟨rfl,rfl⟩ }
  refine⟨.pointer (some ⟨w.heap.size,0,none⟩), { w with heap:=w.heap.push (.cells v.cells t) },fun b=>Im b\/b=w.heap.size, ?_, ?_,he, ?_⟩
  · unfold Instr.box
    simp[lK]
  · exact{
      mX:=fun β b hb=>(hi.mX β b hb).mono hi he (fun hu=>⟨rfl,fun x hx=>hold _ ((hi.mX β b hb).rD hx)⟩)
      inj:=hi.inj
      im:=fun b h=>by
        rcases h with h|h
        · have:=hi.im b h;simp;omega
        · simp;omega
      KJ:=fun β b z hb hu h=>by
        rcases h with h|h
        · exact hi.KJ β b z hb hu h
        · have:=(hi.mX β b hb).rD hu;omega
      G0:=zN.go hi.G0 hi.W6 fun b hb=>hold b (hi.im b hb)
      W6:=fun b hb=> .inl (hi.W6 b hb) }
  · refine .pv _ _ (.rp l w.heap.size 0 (fun i=>(v.cells[i]?).getD undef) (.inr rfl) (fun i xB=>?_) (fun p hp=>?_) (fun i p hp=>?_))
    · have hlt' :i<v.cells.size:=by rw[<- c1,lY];simpa using xB
      simp[World.cell?,hlt']
    · have:=c2 (.pv p) (by rw[lY];exact List.mem_map.2 ⟨p,hp,rfl⟩)
      exact this
    · have h1:x.cells[i]? =some (.pv p):=by rw[lY];simp[hp]
      have hlt' :i<v.cells.size:=by rw[<- c1];exact(qG h1).1
      have h2:v.cells.toList[i]? =some v.cells[i]:=by simp[hlt']
      have h3:=(c4 i _ _ h1 h2).mono hi he
      simp only[hlt',Array.getElem?_eq_getElem,Option.getD_some]
      cases h3 with|pv _ _ h=>exact h
theorem WT(off:Nat): ∀(l:List Value)(j:Nat)(cs:Array Value),off+j+l.length<=cs.size->
  ((l.zipIdx j).foldl (fun cs (c,j)=>cs.setIfInBounds (off+j) c) cs).size=cs.size/\
  ∀k,((l.zipIdx j).foldl (fun cs (c,j)=>cs.setIfInBounds (off+j) c) cs)[k]? =if off+j<=k/\k<off+j+l.length then l[k-(off+j)]? else cs[k]?
 |[],j,cs,_=>⟨rfl,fun k=>by rw[if_neg (by simp)];rfl⟩
 |x::r,j,cs,h=>by
  simp only[List.length_cons]at h;obtain⟨h1,h2⟩:=WT off r (j+1) (cs.setIfInBounds (off+j) x) (by simp;omega);simp only[List.zipIdx_cons,List.foldl_cons];refine⟨by simpa using h1,fun k=>?_⟩;rw[h2 k];simp only[List.length_cons,Array.getElem?_setIfInBounds];by_cases hk:off+(j+1)<=k/\k<off+(j+1)+r.length
  ·rw[if_pos hk,if_pos (by omega)];obtain⟨m,rfl⟩: ∃m,k=off+j+(m+1):=⟨k-(off+j+1),by omega⟩;rw[show off+j+(m+1)-(off+(j+1))=m from by omega,show off+j+(m+1)-(off+j)=m+1 from by omega];rfl
  rw[if_neg hk];by_cases Tk:off+j=k
  ·subst Tk;rw[if_pos rfl,if_pos (by omega),if_pos (by omega)];simp
  rw[if_neg Tk,if_neg (by omega)]
theorem fB(off:Nat)(l:Array Value)(cs:Array Value)(h:off+l.size<=cs.size):
  (l.zipIdx.foldl (fun cs (c,j)=>cs.setIfInBounds (off+j) c) cs).size=cs.size/\
  ∀k,(l.zipIdx.foldl (fun cs (c,j)=>cs.setIfInBounds (off+j) c) cs)[k]? =if off<=k/\k<off+l.size then l[k-off]? else cs[k]? :=by
 have h1:=WT off l.toList 0 cs (by simpa using h);rw[<- Array.foldl_toList];simpa using h1
def PW(w:World)(H:qn)(ι:vG)(Im:Nat->Prop)(c:List AV)(cs:Array Value):Prop:=
 c.length=cs.size/\(∀ x∈c,x.kv=true)/\ ∀(i:Nat) x v,c[i]? =some x->cs[i]? =some v->RA w H ι Im x v
theorem Ju{a:Act}{E:vF}(hE: ∀t,RA w H ι Im (E.get t) (a.tmps.getD t undef))(z6 ML:Nat->Option (Nat×Nat))
  (sI: ∀i x,z6 i=some x->ML i=some x): ∀(parts:List (Nat×Operand))(c:List AV)(cs:Array Value),PW w H ι Im c cs->
  ∀{r:List AV},iE z6 (ev E) parts c=some r-> ∃rs,Instr.fill ML cs (parts.map fun(i,x)=>(i,a.eval x))=some rs/\PW w H ι Im r rs
 |[],c,cs,hc,r,h=>by
  simp only[iE,kX]at h;subst h;exact⟨cs,rfl,hc⟩
 |(i,x)::rest,c,cs,hc,r,h=>by
  simp only[iE]at h;split at h;rotate_left
  ·cases h
  rename_i off size hp;split at h;rotate_left
  ·cases h
  rename_i G2;obtain⟨hs,hl,ho⟩:=G2;have hx:=oZ hE x;obtain⟨c1,c2,c3,c4⟩:=AV.cC hx hs;obtain⟨d1,d2,d3⟩:=hc;have DT:(a.eval x).cells.size=size:=by omega
  obtain⟨f1,f2⟩:=fB off (a.eval x).cells cs (by omega);have UC:PW w H ι Im (c.take off++(ev E x).cells++c.drop (off+size)) ((a.eval x).cells.zipIdx.foldl (fun cs (c,j)=>cs.setIfInBounds (off+j) c) cs):=by
   refine⟨by rw[f1];simp;omega,fun y hy=>?_,fun k y v hy hv=>?_⟩
   ·simp only[List.mem_append]at hy;rcases hy with (hy|hy)|hy
    ·exact d2 y (List.mem_of_mem_take hy)
    ·exact c2 y hy
    exact d2 y (List.mem_of_mem_drop hy)
   rw[<- hl,kp c (ev E x).cells off k (by omega)]at hy;rw[f2 k,DT,<- hl]at hv;split at hy
   ·rename_i hk;rw[if_pos hk]at hv;exact c4 _ y v hy (by simpa using hv)
   rename_i hk;rw[if_neg hk]at hv;exact d3 k y v hy hv
  obtain⟨rs,g1,g2⟩:=Ju hE z6 ML sI rest _ _ UC h;refine⟨rs, ?_,g2⟩;simp only[List.map_cons,Instr.fill,sI _ _ hp];have Qh: ¬(decide ((a.eval x).cells.size≠size) || decide (off+(a.eval x).cells.size>cs.size))=true:=by
   simp only[Bool.or_eq_true,decide_eq_true_eq];omega
  rw[if_neg Qh];exact g1
theorem Xw(fields:Array Field)(sz:Field->Nat)(h: ∀f∈fields.toList,(sizeOf f.type).run P w= .ok (sz f) w):
  (fields.mapM fun f=>do pure (f.offset,<- sizeOf f.type):Sem _).run P w= .ok (fields.map fun f=>(f.offset,sz f)) w:=by
 rw[Array.mapM_eq_mapM_toList];have key: ∀(l:List Field),(∀ f∈l,(sizeOf f.type).run P w= .ok (sz f) w)->
   (l.mapM fun f=>do pure (f.offset,<- sizeOf f.type):Sem _).run P w= .ok (l.map fun f=>(f.offset,sz f)) w:=by
  intro l;induction l with
  |nil=>intro _;simp
  |cons f r ih=>
   intro h;have h1:=h f (by simp);have h2:=ih fun g hg=>h g (by simp[hg]);simp only[List.mapM_cons,ji,h1,gm,Sem.run_pure,h2,List.map_cons]
 simp only[Sem.run_map,key fields.toList h,gm];congr 1;apply Array.ext';simp
theorem Bk{t:TypeId}{i:TypeInfo}(h:P.info? t=some i):(sizeOf t).run P w= .ok (P.cellsOf t) w:=by
 simp[sizeOf,uQ h,Program.cellsOf,h]
theorem S7{G:TypeId->Option TI}(hG: ∀t ti,G t=some ti->zx P t ti){t:TypeId}{ti:TI}(ht:zx P t ti)
  {a:Act} {E:vF} (hE: ∀t,RA w H ι Im (E.get t) (a.tmps.getD t undef)) (parts:Array (Nat×Operand)) {r:AV} (hr:J1 ti G (ev E) parts.toList=some r):
  ∃u,(Instr.build t (parts.map fun(i,x)=>(i,a.eval x))).run P w= .ok u w/\RA w H ι Im r u:=by
 obtain⟨z,h1,h2,h3,h4⟩:=oB (w:=w) (Im:=Im) ht;have hz:PW w H ι Im (ti.zero.map .pv) z.cells:=by
  refine⟨by simpa using h2,fun x hx=>?_,fun i x v hx hv=>?_⟩
  ·simp only[List.mem_map]at hx;obtain⟨p,hp,rfl⟩:=hx;exact ht.kv p hp
  simp only[List.getElem?_map,yi]at hx;obtain⟨p,hp,rfl⟩:=hx;exact .pv _ _ (h3 i p v hp (by simpa using hv))
 have Zb:(parts.map fun(i,x)=>(i,a.eval x)).toList=parts.toList.map fun(i,x)=>(i,a.eval x):=by simp
 unfold J1 at hr;unfold Instr.build;simp only[ji,h1,gm];split at hr
 ·rename_i fs xr;obtain⟨fields,hu,rfl⟩:=ht.struct xr;have hkn: ∀f∈fields.toList,(sizeOf f.type).run P w= .ok (P.cellsOf f.type) w:=by
   intro f hf;have hk:=ht.known;unfold iD at hk;rw[hu]at hk;have:=List.all_eq_true.1 hk f hf;obtain⟨i,hi⟩:=Option.isSome_iff_exists.1 this;exact Bk hi
  split at hr<;>cases hr;rename_i c hc;obtain⟨rs,g1,g2⟩:=Ju hE _ ((fields.map fun f=>(f.offset,P.cellsOf f.type))[·]?) (fun i x hx=>by
   unfold iC at hx
   simp only[List.getElem?_map]at hx
   cases hf:fields.toList[i]? with
   |none=>simp[hf]at hx
   |some f=>
    simp only[hf,Option.map_some,kX]at hx
    have:fields[i]? =some f:=by rw[<- hf];simp
    simp[this,<- hx]) parts.toList _ _ hz hc
  simp only[qv hu,gm,ji,Xw fields _ hkn,Zb,g1];exact⟨.agg rs,by simp,iP (by simpa using g2.1) g2.2.1 fun i x v hx hv=>g2.2.2 i x v hx (by simpa using hv)⟩
 ·rename_i len e xr;have hu:=ht.array xr;split at hr;rotate_left
  ·cases hr
  rename_i te rE;split at hr<;>cases hr;rename_i c hc;obtain⟨rs,g1,g2⟩:=Ju hE _ (fun i=>some (i*te.size,te.size)) (fun i x hx=>hx) parts.toList _ _ hz hc;simp only[qv hu,gm,ji,(hG _ _ rE).size,Zb,g1];exact⟨.agg rs,by simp,iP (by simpa using g2.1) g2.2.1 fun i x v hx hv=>g2.2.2 i x v hx (by simpa using hv)⟩
 cases hr
end
section
variable [zN] {P:Program} {w:World} {H:qn} {ι:vG} {Im:Nat->Prop}
def xD(w:World)(Im:Nat->Prop)(sz:Nat)(es:List (List PV))(cs:Nat->Option Value):Prop:=
 (∀ e∈es,e.length=sz)/\(∀(i:Nat) e(j:Nat) p,es[i]? =some e->e[j]? =some p->p.kv=true)/\
 ∀(i:Nat) e(j:Nat) p,es[i]? =some e->e[j]? =some p-> ∃v,cs (i*sz+j)=some v/\RP w Im p v
theorem xD.mono{w' :World}{jA:Nat->Prop}(hi: ∀b,Im b->jA b)(hw: ∀b,Im b->w'.heap[b]? =w.heap[b]?){sz:Nat}{es:List (List PV)}
  {cs:Nat->Option Value} (h:xD w Im sz es cs):xD w' jA sz es cs:=
 ⟨h.1,h.2.1,fun i e j p a b=>let⟨v,g1,g2⟩:=h.2.2 i e j p a b;⟨v,g1,g2.mono hi hw⟩⟩
theorem XO(hi:qW w H ι Im){nx:Nat}{X:Nat->Prop}(xt:Bd X H nx)(hX: ¬X nx)(sz:Nat)(es:List (List PV))(cs:Array Value)(elem:TypeId)
  (fz:Nat×Nat) (cap:Nat) (w' :World) (hw:w'.heap=w.heap.push (.cells cs elem fz)) (E7:w'.os=w.os/\w'.output=w.output) (hfz:wa fz cs.size) (bO:0<sz) (hc:cs.size=cap*sz)
  (Xk:es.length<=cap) (h:xD w Im sz es (cs[·]?)):
  mH X w H ι Im nx (.row nx es.length 0 es.length,[(nx,.row false sz es)],nx+1) (.slice (some ⟨w.heap.size,0,none⟩) es.length cap) w' :=by
 obtain⟨ι',h0,h1,h2⟩:=qW.new hi xt hX w' (.row false sz es) (.cells cs elem fz) cap hw E7 (fun ι' hp he=>by
  have hk: ∀b,Im b->w'.heap[b]? =w.heap[b]? :=fun b hb=>he.Qo hi b hb
  obtain⟨k1,k2,k3⟩:=h.mono he.im hk
  exact⟨cs,elem,fz,by simp[hp,hw],hfz,by simp[hp,hc],bO,by simp[hp,Xk],k1,k2,k3⟩)
 refine⟨ι',h1,h2, ?_,by simp,ki xt (by simp) (.inl (by simp))⟩;have hg:(qS [(nx,qD.row false sz es)] H).get nx=some (.row false sz es):=by simp[qS,qn.qZ]
 refine .row nx _ 0 _ _ _ rfl hg (fun _=>⟨_,_,_,rfl⟩) (fun _ _ _ e=>by cases e;exact xJ _) fun _ _ _ e _=>?_;cases e;refine⟨by simp, ?_⟩;simp only[w9,if_false];exact⟨⟨w.heap.size,0,none⟩,by simp[h0],rfl,by simp[h0],fun _=>by simp⟩
def gv(w:World)(H:qn)(ι:vG)(Im:Nat->Prop)(sz:Nat)(es:List (List AV))(cs:Nat->Option Value):Prop:=
 (∀ e∈es,e.length=sz)/\(∀(i:Nat) e(j:Nat) x,es[i]? =some e->e[j]? =some x->x.kv=true)/\
 ∀(i:Nat) e(j:Nat) x,es[i]? =some e->e[j]? =some x-> ∃v,cs (i*sz+j)=some v/\RA w H ι Im x v
theorem gv.mono{w' :World}{H' :qn}{ι' :vG}{jA:Nat->Prop}(hi:qW w H ι Im)(he:w8 w H ι Im w' H' ι' jA){sz:Nat}{es:List (List AV)}
  {cs:Nat->Option Value} (h:gv w H ι Im sz es cs):gv w' H' ι' jA sz es cs:=
 ⟨h.1,h.2.1,fun i e j p a b=>let⟨v,g1,g2⟩:=h.2.2 i e j p a b;⟨v,g1,g2.mono hi he⟩⟩
theorem GD(hi:qW w H ι Im){nx:Nat}{X:Nat->Prop}(xt:Bd X H nx)(hX: ¬X nx)(sz:Nat)(es:List (List AV))(cs:Array Value)(elem:TypeId)
  (fz:Nat×Nat) (cap:Nat) (w' :World) (hw:w'.heap=w.heap.push (.cells cs elem fz)) (E7:w'.os=w.os/\w'.output=w.output) (hfz:wa fz cs.size) (bO:0<sz) (hc:cs.size=cap*sz)
  (Xk:es.length<=cap) (h:gv w H ι Im sz es (cs[·]?)):
  mH X w H ι Im nx (.row nx es.length 0 es.length,[(nx,.yq sz es)],nx+1) (.slice (some ⟨w.heap.size,0,none⟩) es.length cap) w' :=by
 obtain⟨ι',h0,h1,h2⟩:=qW.new hi xt hX w' (.yq sz es) (.cells cs elem fz) cap hw E7 (fun ι' hp he=>by
  obtain⟨k1,k2,k3⟩:=h.mono hi he
  exact⟨cs,elem,fz,by simp[hp,hw],hfz,by simp[hp,hc],bO,by simp[hp,Xk],k1,k2,k3⟩)
 refine⟨ι',h1,h2, ?_,by simp,ki xt (by simp) (.inl (by simp))⟩;have hg:(qS [(nx,qD.yq sz es)] H).get nx=some (.yq sz es):=by simp[qS,qn.qZ]
 refine .row nx _ 0 _ _ _ rfl hg (fun _=>⟨_,_,_,rfl⟩) (fun _ _ _ e=>by cases e;exact xJ _) fun _ _ _ e _=>?_;cases e;refine⟨by simp, ?_⟩;simp only[w9,if_false];exact⟨⟨w.heap.size,0,none⟩,by simp[h0],rfl,by simp[h0],fun _=>by simp⟩
theorem QB{x:AV}{v:Value}(hx:RA w H ι Im x v){p:PV}(h:Kf x=some p):RP w Im p v:=by
 unfold Kf at h;split at h<;>cases h
 ·cases hx;assumption
 cases hx with
 |aU a=>
  exact .sl 0 [] a.block a.off 0 (fun _=>undef) (fun h=>absurd rfl h) (Nat.zero_le _) (by simp) (fun i xB=>by simp at xB) (by simp) (by simp) a.spot (fun h=>absurd rfl h)
theorem PV.cC{p:PV}{v:Value}(h:RP w Im p v):p.cells.length=v.cells.size/\(∀ q∈p.cells,q.kv=true)/\
  ∀(i:Nat) q u,p.cells[i]? =some q->v.cells[i]? =some u->RP w Im q u:=by
 by_cases hp:p.kv=true
 ·have ho:=h.s7 hp;have e1:p.cells=[p]:=by cases p<;>first|rfl|cases hp
  have e2:v.cells= #[v]:=by cases v<;>first|rfl|cases ho
  rw[e1,e2];refine⟨rfl,by simpa using hp,fun i q u hq hu=>?_⟩;cases i with
  |zero=>simp at hq hu;subst hq hu;exact h
  |succ i=>simp at hq
 cases h with
 |agg c vs hl hf h=>exact⟨by simpa[PV.cells,Value.cells]using hl,hf,fun i q u hq hu=>h i q u hq (by simpa[Value.cells]using hu)⟩
 |_=>exact absurd rfl hp
theorem Jw{a:Act}{E:vF}(hE: ∀t,RA w H ι Im (E.get t) (a.tmps.getD t undef))(size:Nat): ∀(parts:List (Nat×Operand))(es:List (List PV))(cs:Array Value),
  cs.size=es.length*size->xD w Im size es (cs[·]?)->
  ∀{r:List (List PV)},pL size (ev E) parts es=some r-> ∃rs,Instr.fill (fun i=>some (i*size,size)) cs (parts.map fun(i,x)=>(i,a.eval x))=some rs/\
   r.length=es.length/\rs.size=es.length*size/\xD w Im size r (rs[·]?)
 |[],es,cs,hs,hc,r,h=>by
  simp only[pL,kX]at h;subst h;exact⟨cs,rfl,rfl,hs,hc⟩
 |(i,x)::rest,es,cs,hs,hc,r,h=>by
  simp only[pL]at h;split at h;rotate_left
  ·cases h
  rename_i p hp;split at h;rotate_left
  ·cases h
  rename_i G2;obtain⟨sI,fD⟩:=G2;have hx:=QB (oZ hE x) hp;obtain⟨c1,c2,c3⟩:=PV.cC hx;have DT:(a.eval x).cells.size=size:=by omega
  have sG:i*size+size<=cs.size:=by
   rw[hs,<- Nat.succ_mul];exact mulR _ fD
  obtain⟨f1,f2⟩:=fB (i*size) (a.eval x).cells cs (by omega);have nO: ∀(i' :Nat) e',(es.set i p.cells)[i']? =some e' ->(i' =i/\e' =p.cells)\/(i' ≠i/\es[i']? =some e'):=by
   intro i' e' h;rw[List.getElem?_set]at h;by_cases BJ:i=i'
   ·subst BJ;simp[fD]at h;exact .inl ⟨rfl,h.symm⟩
   simp[BJ]at h;exact .inr ⟨Ne.symm BJ,h⟩
  obtain⟨rs,g1,g2,g3,g4⟩:=Jw hE size rest (es.set i p.cells) _ (by rw[f1];simpa using hs) (by
   refine⟨fun e he=>?_,fun i' e' j q vq hj=>?_,fun i' e' j q vq hj=>?_⟩
   ·obtain⟨i',vq⟩:=jz he
    rcases nO i' e vq with ⟨_,rfl⟩|⟨_,h⟩
    ·exact sI
    exact hc.1 e (qX h)
   ·rcases nO i' e' vq with ⟨_,rfl⟩|⟨_,h⟩
    ·exact c2 q (qX hj)
    exact hc.2.1 i' e' j q h hj
   have M3:j<size:=by
    have h1:=(qG hj).1
    rcases nO i' e' vq with ⟨_,rfl⟩|⟨_,h⟩
    ·omega
    have:=hc.1 e' (qX h)
    omega
   show ∃v,_/\_
   simp only[f2]
   rcases nO i' e' vq with ⟨rfl,rfl⟩|⟨jv,h⟩
   ·rw[if_pos (by omega),show i' *size+j-i' *size=j from by omega]
    obtain⟨u,hu⟩: ∃u,(a.eval x).cells[j]? =some u:=⟨(a.eval x).cells[j]'(by omega),by simp⟩
    exact⟨u,hu,c3 j q u hj hu⟩
   obtain⟨u,hu,hr⟩:=hc.2.2 i' e' j q h hj
   have Za: ¬(i*size<=i' *size+j/\i' *size+j<i*size+(a.eval x).cells.size):=by
    rcases Nat.lt_or_gt_of_ne jv with xB|BH
    ·have:(i' +1)*size<=i*size:=mulR _ xB
     rw[Nat.succ_mul]at this
     omega
    have:(i+1)*size<=i' *size:=mulR _ BH
    rw[Nat.succ_mul]at this
    omega
   rw[if_neg Za]
   exact⟨u,hu,hr⟩) h
  refine⟨rs, ?_,by simpa using g2,by simpa using g3,g4⟩;have Qh: ¬(decide ((a.eval x).cells.size≠size) || decide (i*size+(a.eval x).cells.size>cs.size))=true:=by
   simp only[Bool.or_eq_true,decide_eq_true_eq];omega
  simp only[List.map_cons,Instr.fill];rw[if_neg Qh];exact g1
theorem ZF{a:Act}{E:vF}(hE: ∀t,RA w H ι Im (E.get t) (a.tmps.getD t undef))(size:Nat): ∀(parts:List (Nat×Operand))(es:List (List AV))(cs:Array Value),
  cs.size=es.length*size->gv w H ι Im size es (cs[·]?)->
  ∀{r:List (List AV)},mq size (ev E) parts es=some r-> ∃rs,Instr.fill (fun i=>some (i*size,size)) cs (parts.map fun(i,x)=>(i,a.eval x))=some rs/\
   r.length=es.length/\rs.size=es.length*size/\gv w H ι Im size r (rs[·]?)
 |[],es,cs,hs,hc,r,h=>by
  simp only[mq,kX]at h;subst h;exact⟨cs,rfl,rfl,hs,hc⟩
 |(i,x)::rest,es,cs,hs,hc,r,h=>by
  simp only[mq]at h;split at h;rotate_left
  ·cases h
  rename_i G2;obtain⟨XH,sI,fD⟩:=G2;obtain⟨c1,c2,_,c3⟩:=AV.cC (oZ hE x) XH;have DT:(a.eval x).cells.size=size:=by omega
  have sG:i*size+size<=cs.size:=by
   rw[hs,<- Nat.succ_mul];exact mulR _ fD
  obtain⟨f1,f2⟩:=fB (i*size) (a.eval x).cells cs (by omega);have nO: ∀(i' :Nat) e',(es.set i (ev E x).cells)[i']? =some e' ->(i' =i/\e' =(ev E x).cells)\/(i' ≠i/\es[i']? =some e'):=by
   intro i' e' h;rw[List.getElem?_set]at h;by_cases BJ:i=i'
   ·subst BJ;simp[fD]at h;exact .inl ⟨rfl,h.symm⟩
   simp[BJ]at h;exact .inr ⟨Ne.symm BJ,h⟩
  obtain⟨rs,g1,g2,g3,g4⟩:=ZF hE size rest (es.set i (ev E x).cells) _ (by rw[f1];simpa using hs) (by
   refine⟨fun e he=>?_,fun i' e' j q vq hj=>?_,fun i' e' j q vq hj=>?_⟩
   ·obtain⟨i',vq⟩:=jz he
    rcases nO i' e vq with ⟨_,rfl⟩|⟨_,h⟩
    ·exact sI
    exact hc.1 e (qX h)
   ·rcases nO i' e' vq with ⟨_,rfl⟩|⟨_,h⟩
    ·exact c2 q (qX hj)
    exact hc.2.1 i' e' j q h hj
   have M3:j<size:=by
    have h1:=(qG hj).1
    rcases nO i' e' vq with ⟨_,rfl⟩|⟨_,h⟩
    ·omega
    have:=hc.1 e' (qX h)
    omega
   show ∃v,_/\_
   simp only[f2]
   rcases nO i' e' vq with ⟨rfl,rfl⟩|⟨jv,h⟩
   ·rw[if_pos (by omega),show i' *size+j-i' *size=j from by omega]
    obtain⟨u,hu⟩: ∃u,(a.eval x).cells[j]? =some u:=⟨(a.eval x).cells[j]'(by omega),by simp⟩
    exact⟨u,hu,c3 j q u hj (by simpa using hu)⟩
   obtain⟨u,hu,hr⟩:=hc.2.2 i' e' j q h hj
   have Za: ¬(i*size<=i' *size+j/\i' *size+j<i*size+(a.eval x).cells.size):=by
    rcases Nat.lt_or_gt_of_ne jv with xB|BH
    ·have:(i' +1)*size<=i*size:=mulR _ xB
     rw[Nat.succ_mul]at this
     omega
    have:(i+1)*size<=i' *size:=mulR _ BH
    rw[Nat.succ_mul]at this
    omega
   rw[if_neg Za]
   exact⟨u,hu,hr⟩) h
  refine⟨rs, ?_,by simpa using g2,by simpa using g3,g4⟩;have Qh: ¬(decide ((a.eval x).cells.size≠size) || decide (i*size+(a.eval x).cells.size>cs.size))=true:=by
   simp only[Bool.or_eq_true,decide_eq_true_eq];omega
  simp only[List.map_cons,Instr.fill];rw[if_neg Qh];exact g1
theorem UA{te:TI}{t:TypeId}(ht:zx P t te){z:Value}(h2:te.zero.length=z.cells.size)
  (h3: ∀(i:Nat) p v,te.zero[i]? =some p->z.cells.toList[i]? =some v->RP w Im p v) (len:Nat):
  xD w Im te.size (List.replicate len te.zero) (((Array.range (len*te.size)).map (z.cells[· % z.cells.size]!))[·]?):=by
 refine⟨fun e he=>?_,fun i e j p hi hj=>?_,fun i e j p hi hj=>?_⟩
 ·rw[List.eq_of_mem_replicate he,ht.len]
 ·rw[List.getElem?_replicate]at hi;split at hi<;>cases hi;exact ht.kv p (qX hj)
 rw[List.getElem?_replicate]at hi;split at hi<;>cases hi;rename_i xB;have M1:=(qG hj).1;have hl:=ht.len;have hb:i*te.size+j<len*te.size:=by
  have:(i+1)*te.size<=len*te.size:=mulR _ xB;rw[Nat.succ_mul]at this;omega
 have hm:(i*te.size+j) % z.cells.size=j:=by
  rw[<- h2,hl,Nat.mul_comm,Nat.mul_add_mod];exact Nat.mod_eq_of_lt (by omega)
 have hjz:j<z.cells.size:=by omega
 refine⟨z.cells[j], ?_,h3 j p _ hj (by simp[hjz])⟩;simp[hb,hm,hjz]
theorem J2{G:TypeId->Option TI}(hG: ∀t ti,G t=some ti->zx P t ti){t e:TypeId}{ti te:TI}(ht:zx P t ti)(xr:ti.td= .slice e)(rE:G e=some te)
  (hi:qW w H ι Im) {nx:Nat} {X:Nat->Prop} (xt:Bd X H nx) (hX: ¬X nx)
  {a:Act} {E:vF} (hE: ∀t,RA w H ι Im (E.get t) (a.tmps.getD t undef)) (len:Nat) (parts:Array (Nat×Operand)) (bU:0<te.size) (hlen:len*te.size<=2^24)
  {es:List (List PV)} (hr:pL te.size (ev E) parts.toList (List.replicate len te.zero)=some es):
  ∃u w',(Instr.buildSlice t len (parts.map fun(i,x)=>(i,a.eval x))).run P w= .ok u w' /\
   mH X w H ι Im nx (.row nx es.length 0 es.length,[(nx,.row false te.size es)],nx+1) u w' :=by
 have tU:=hG _ _ rE;obtain⟨z,h1,h2,h3,h4⟩:=oB (w:=w) (Im:=Im) tU;have hzr:=UA (w:=w) (Im:=Im) tU h2 h3 len;obtain⟨rs,g1,g2,g3,g4⟩:=Jw hE te.size parts.toList _ _ (by simp) hzr hr;have rS:es.length=len:=by simpa using g2
 have Zb:(parts.map fun(i,x)=>(i,a.eval x)).toList=parts.toList.map fun(i,x)=>(i,a.eval x):=by simp
 refine⟨.slice (some ⟨w.heap.size,0,none⟩) es.length es.length, { w with heap:=w.heap.push (.cells rs e) }, ?_,XO hi xt hX te.size es rs e (0,0) es.length _ rfl ⟨rfl,rfl⟩ (xE _) bU (by rw[g3,rS];simp) (xJ _) g4⟩;unfold Instr.buildSlice;simp only[ji,qv (ht.slice xr),gm,tU.size];rw[Zb];have Qh: ¬(len*te.size>2^24):=by omega
 by_cases h0:len*te.size=0
 ·simp only[h0]at g1 |-;have hz0:((Array.range 0).map fun x=>(#[]:Array Value)[x % (#[]:Array Value).size]!)=((Array.range 0).map (z.cells[· % z.cells.size]!)):=by simp
  simp only[Nat.reducePow,Nat.not_lt_zero,gt_iff_lt,if_false,Sem.run_pure,gm,if_true,ji,hz0,g1,rS];simp[newRow]
 simp only[Qh,if_false,Sem.run_pure,gm,h0,ji,h1,g1,rS];simp[newRow]
theorem Lo{sz:Nat}{z:List PV}{len:Nat}{cs:Nat->Option Value}(h:xD w Im sz (List.replicate len z) cs):gv w H ι Im sz (List.replicate len (z.map AV.pv)) cs:=by
 have get: ∀(i:Nat) e,(List.replicate len (z.map AV.pv))[i]? =some e->(List.replicate len z)[i]? =some z/\e=z.map AV.pv:=by
  intro i e h;rw[List.getElem?_replicate]at h |-;split at h<;>cases h;rename_i xB;exact⟨if_pos xB,rfl⟩
 refine⟨fun e he=>?_,fun i e j x hi hj=>?_,fun i e j x hi hj=>?_⟩
 ·obtain⟨i,hi⟩:=jz he;obtain⟨h1,rfl⟩:=get i e hi;rw[List.length_map];exact h.1 z (qX h1)
 ·obtain⟨h1,rfl⟩:=get i e hi;rw[List.getElem?_map,yi]at hj;obtain⟨p,hp,rfl⟩:=hj;exact h.2.1 i z j p h1 hp
 obtain⟨h1,rfl⟩:=get i e hi;rw[List.getElem?_map,yi]at hj;obtain⟨p,hp,rfl⟩:=hj;obtain⟨v,g1,g2⟩:=h.2.2 i z j p h1 hp;exact⟨v,g1,.pv _ _ g2⟩
theorem Xb{G:TypeId->Option TI}(hG: ∀t ti,G t=some ti->zx P t ti){t e:TypeId}{ti te:TI}(ht:zx P t ti)(xr:ti.td= .slice e)(rE:G e=some te)
  (hi:qW w H ι Im) {nx:Nat} {X:Nat->Prop} (xt:Bd X H nx) (hX: ¬X nx)
  {a:Act} {E:vF} (hE: ∀t,RA w H ι Im (E.get t) (a.tmps.getD t undef)) (len:Nat) (parts:Array (Nat×Operand)) (bU:0<te.size) (hlen:len*te.size<=2^24)
  {es:List (List AV)} (hr:mq te.size (ev E) parts.toList (List.replicate len (te.zero.map .pv))=some es):
  ∃u w',(Instr.buildSlice t len (parts.map fun(i,x)=>(i,a.eval x))).run P w= .ok u w' /\
   mH X w H ι Im nx (.row nx es.length 0 es.length,[(nx,.yq te.size es)],nx+1) u w' :=by
 have tU:=hG _ _ rE;obtain⟨z,h1,h2,h3,h4⟩:=oB (w:=w) (Im:=Im) tU;have hzr:=Lo (H:=H) (ι:=ι) (UA (w:=w) (Im:=Im) tU h2 h3 len);obtain⟨rs,g1,g2,g3,g4⟩:=ZF hE te.size parts.toList _ _ (by simp) hzr hr;have rS:es.length=len:=by simpa using g2
 have Zb:(parts.map fun(i,x)=>(i,a.eval x)).toList=parts.toList.map fun(i,x)=>(i,a.eval x):=by simp
 refine⟨.slice (some ⟨w.heap.size,0,none⟩) es.length es.length, { w with heap:=w.heap.push (.cells rs e) }, ?_,GD hi xt hX te.size es rs e (0,0) es.length _ rfl ⟨rfl,rfl⟩ (xE _) bU (by rw[g3,rS];simp) (xJ _) g4⟩;unfold Instr.buildSlice;simp only[ji,qv (ht.slice xr),gm,tU.size];rw[Zb];have Qh: ¬(len*te.size>2^24):=by omega
 by_cases h0:len*te.size=0
 ·simp only[h0]at g1 |-;have hz0:((Array.range 0).map fun x=>(#[]:Array Value)[x % (#[]:Array Value).size]!)=((Array.range 0).map (z.cells[· % z.cells.size]!)):=by simp
  simp only[Nat.reducePow,Nat.not_lt_zero,gt_iff_lt,if_false,Sem.run_pure,gm,if_true,ji,hz0,g1,rS];simp[newRow]
 simp only[Qh,if_false,Sem.run_pure,gm,h0,ji,h1,g1,rS];simp[newRow]
theorem KZ{G:TypeId->Option TI}(hG: ∀t ti,G t=some ti->zx P t ti){t:TypeId}{ti:TI}(ht:zx P t ti)
  (hi:qW w H ι Im) {nx:Nat} {X:Nat->Prop} (xt:Bd X H nx) (hX: ∀γ,X γ->nx+1<=γ)
  {l c:AV} {vl vc:Value} (hl:RA w H ι Im l vl) (hc:RA w H ι Im c vc) {e:bY} (hr:tO ti.td G l c nx=some e):
  ∃u w',(Instr.makeSlice t vl vc).run P w= .ok u w' /\mH X w H ι Im nx e u w' :=by
 unfold tO at hr;split at hr;rotate_left
 ·cases hr
 rename_i el xr;split at hr;rotate_left
 ·cases hr
 rename_i te n n' rE hln hcn;split at hr<;>cases hr;rename_i hh;obtain⟨rfl,bU,wV⟩:=hh;have Ia: ∀{x:AV}{v:Value}{m:Nat},RA w H ι Im x v->wW x=some m-> ∃k,v= .int k (m:Int):=by
  intro x v m hx hm;unfold wW at hm;split at hm
  ·rename_i k z;split at hm<;>cases hm;rename_i h0;cases hx with
   |pv _ _ h=>
    cases h;exact⟨k,by rw[Int.toNat_of_nonneg h0]⟩
  cases hm
 obtain⟨k1,rfl⟩:=Ia hl hln;obtain⟨k2,rfl⟩:=Ia hc hcn;have tU:=hG _ _ rE;obtain⟨i,z0,q1,q2,q3,q4,q5,q6⟩:=tU.info;obtain⟨z,h1,h2,h3,h4⟩:=oB (w:=w) (Im:=Im) tU;have hzr:=UA (w:=w) (Im:=Im) tU h2 h3 n';simp only[qg,zB,decide_eq_true_eq]at wV;obtain⟨⟨r1,r2⟩,r3⟩:=wV;have hw0:IntKind.i64.wrap (n' :Int)=(n' :Int):=IntWalk.i64_in _ ⟨by omega,by omega⟩;have hb:i.bytes*n' <=2^46:=by rw[q3,Nat.mul_comm];exact r1
 have Qh: ¬(((i.bytes:Int)*(n' :Int))>2^48):=by
  have:((i.bytes*n' :Nat):Int)<=2^46:=by omega
  rw[Int.natCast_mul]at this;omega
 refine⟨.slice (some ⟨w.heap.size,0,none⟩) (List.replicate n' te.zero).length n', { w with heap:=w.heap.push (.cells ((Array.range (n' *te.size)).map (z.cells[· % z.cells.size]!)) el) }, ?_,XO hi xt (sS hX) te.size _ _ el (0,0) n' _ rfl ⟨rfl,rfl⟩ (xE _) bU (by simp) (by simp) hzr⟩;unfold Instr.makeSlice;have hneg: ¬((n' :Int)<0):=by omega
 simp only[ji,qv (ht.slice xr),gm,asInt,asIntOf,Sem.run_pure,uQ q1,hw0];have BH: ¬((n' :Int)>(n' :Int)):=by omega
 simp only[hneg,Qh,BH,decide_false,Bool.or_self,w9,if_false,Int.toNat_natCast,run_askRoom,gm,tU.size,ji];by_cases h0:n' *te.size=0
 ·have hz0:((Array.range 0).map fun x=>(#[]:Array Value)[x % (#[]:Array Value).size]!)=((Array.range 0).map (z.cells[· % z.cells.size]!)):=by simp
  simp only[h0,if_true,Sem.run_pure,gm,hz0,newRow,ji,run_newObj,List.length_replicate]
 simp only[h0,if_false,ji,h1,Sem.run_pure,gm,newRow,run_newObj,List.length_replicate]
end
section
variable [zN] {P:Program} {w:World} {H:qn} {ι:vG} {Im:Nat->Prop}
theorem w8.yu{w' :World}(h:w'.heap=w.heap)(E7:w'.os=w.os/\w'.output=w.output):w8 w H ι Im w' H ι Im where
 comp:=fun β b h=>⟨b,h,vV b _⟩
 im:=fun _ h=>h
 mw:=fun _ h=> .inl h
 bC:=fun β x z h hu=> .inr ⟨β,x,h,hu⟩
 ka:=fun _ _ _=>by rw[h]
 size:=by rw[h];exact xJ _
 io:=E7
theorem qW.yu{w' :World}(h:w'.heap=w.heap)(E7:w'.os=w.os/\w'.output=w.output)(hi:qW w H ι Im):qW w' H ι Im where
 mX:=fun β b hb=>(hi.mX β b hb).mono hi (w8.yu h E7) (fun _=>⟨rfl,fun _ _=>by rw[h]⟩)
 inj:=hi.inj
 im:=fun b hb=>by rw[h];exact hi.im b hb
 KJ:=hi.KJ
 G0:=zN.go hi.G0 hi.W6 fun b _=>by rw[h]
 W6:=hi.W6
theorem RA.yu{w' :World}(h:w'.heap=w.heap)(E7:w'.os=w.os/\w'.output=w.output)(hi:qW w H ι Im){x:AV}{v:Value}(hx:RA w H ι Im x v):RA w' H ι Im x v:=hx.mono hi (w8.yu h E7)
theorem mT(hi:qW w H ι Im){x:AV}{v:Value}(hx:RA w H ι Im x v){mU:Nat}{src:List (List PV)}(h:vT x H=some (mU,src)):
  (Builtin.lenOf v).run P w= .ok src.length w/\
  ∀size,(mU=size\/src=[])-> ∃cs,(Builtin.firstCells size src.length v).run P w= .ok cs w/\cs.size=src.length*size/\xD w Im size src (cs[·]?):=by
 have empty: ∀(v:Value),(∃ a c,v= .slice (some a) 0 c)\/(∃ c,v= .slice none 0 c)->(Builtin.lenOf v).run P w= .ok ([]:List (List PV)).length w/\
   ∀size,∃ cs,(Builtin.firstCells size ([]:List (List PV)).length v).run P w= .ok cs w/\cs.size=([]:List (List PV)).length*size/\xD w Im size [] (cs[·]?):=by
  intro v hv;rcases hv with ⟨a,c,rfl⟩|⟨c,rfl⟩
  ·refine⟨by simp[Builtin.lenOf],fun size=>⟨#[], ?_,by simp,by simp[xD]⟩⟩;simp[Builtin.firstCells,loadCells,loadCellsFrom]
  exact⟨by simp[Builtin.lenOf],fun size=>⟨#[],by simp[Builtin.firstCells],by simp,by simp[xD]⟩⟩
 unfold vT at h;split at h
 ·rename_i qq sz es;cases h;cases hx with
  |pv _ _ h=>cases h with
   |cK sz=>
    obtain⟨e1,e2⟩:=empty (.slice none 0 0) (.inr ⟨_,rfl⟩);exact⟨e1,fun size _=>e2 size⟩
   |sl _ _ b off cap vs oJ Xk bO hc hf h sp Tr=>
    refine⟨by simp[Builtin.lenOf],fun size hs=>?_⟩;by_cases rS:src=[]
    ·subst rS;exact(empty _ (.inl ⟨_,_,rfl⟩)).2 size
    obtain rfl:=Tr rS;rcases hs with rfl|rfl
    ·refine⟨((List.range (src.length*mU)).map vs).toArray, ?_,by simp,bO,hf,fun i e j p vq hj=>?_⟩
     ·simp only[Builtin.firstCells];exact run_loadCells b off _ vs hc
     have xB:=(qG vq).1;have M1:=(qG hj).1;have he:=bO e (qX vq);have:(i+1)*mU<=src.length*mU:=mulR _ xB;rw[Nat.succ_mul]at this;refine⟨vs (i*mU+j), ?_,h i e j p vq hj⟩;simp only[List.getElem?_toArray,List.getElem?_map];rw[List.getElem?_range (by omega)];rfl
    exact absurd rfl rS
 ·cases h;cases hx with
  |aU a=>
   obtain⟨e1,e2⟩:=empty (.slice (some a) 0 0) (.inl ⟨_,_,rfl⟩);exact⟨e1,fun size _=>e2 size⟩
 ·rename_i β zF off n;split at h;rotate_left
  ·cases h
  rename_i qq sz es hb;split at h<;>cases h;rename_i xU;cases hx with
  |row _ _ _ _ _ b ho xQ hk hv hh=>
   rw[hb]at xQ;cases xQ;obtain⟨h1,h2⟩:=hh _ _ _ rfl xU;have hln:((es.drop off).take n).length=n:=by simp;omega
   cases hn:qq
   ·rw[hn]at h2 hb;simp only[w9,if_false]at h2;obtain⟨a,rfl,fS,dS,eY⟩:=h2;obtain⟨ab,ao,T9⟩:=a;simp only at fS dS eY;subst fS dS;refine⟨by rw[hln];simp[Builtin.lenOf],fun size hs=>?_⟩;by_cases UE:n=0
    ·subst UE;have:(es.drop off).take 0=[]:=by simp
     rw[this];exact(empty _ (.inl ⟨_,_,rfl⟩)).2 size
    obtain⟨vs,elem,fz,g1,g2,g3,g4,g5,g6,g7,g8⟩:=hi.row hb;have SO:=eY (by omega);subst SO;have eO:mU=size:=by
     rcases hs with h|h
     ·exact h
     rw[h]at hln;simp at hln;omega
    subst eO;have mr: ∀(i:Nat) e,((es.drop off).take n)[i]? =some e->i<n/\es[off+i]? =some e:=by
     intro i e W9;have:=(qG W9).1;have sG:i<n:=by omega
     rw[List.getElem?_take_of_lt sG,List.getElem?_drop]at W9;exact⟨sG,W9⟩
    have hmul:off*mU+n*mU<=es.length*mU:=by rw[<- Nat.add_mul];exact mulR _ h1
    have hmul2:es.length*mU<=(ι β).cap*mU:=mulR _ g5;rw[hln];refine⟨((List.range (n*mU)).map fun j=>(vs[off*mU+j]?).getD undef).toArray, ?_,by simp,fun e he=>?_,fun i e j p W9 hj=>?_,fun i e j p W9 hj=>?_⟩
    ·simp only[Builtin.firstCells];refine run_loadCells _ _ _ _ fun j hj=>?_;rw[ux g1];have:off*mU+j<vs.size:=by omega
     simp[this]
    ·exact g6 e (List.mem_of_mem_drop (List.mem_of_mem_take he))
    ·exact g7 _ e j p (mr i e W9).2 hj
    obtain⟨sG,E6⟩:=mr i e W9;obtain⟨v,k1,k2⟩:=g8 _ e j p E6 hj;have M1:=(qG hj).1;have he:=g6 e (qX E6);have:(i+1)*mU<=n*mU:=mulR _ sG;rw[Nat.succ_mul]at this;refine⟨v, ?_,k2⟩;have e1:off*mU+(i*mU+j)=(off+i)*mU+j:=by rw[Nat.add_mul];omega
    simp only[List.getElem?_toArray,List.getElem?_map];rw[List.getElem?_range (by omega)];simp only[Option.map_some,e1,k1,Option.getD_some]
   rw[hn]at h2 hb;have rS:es=[]:=hi.mX β _ hb;subst rS;simp only[if_true]at h2;subst h2;have:(([]:List (List PV)).drop off).take n=[]:=by simp
   rw[this];obtain⟨e1,e2⟩:=empty (.slice none 0 0) (.inr ⟨_,rfl⟩);exact⟨e1,fun size _=>e2 size⟩
 ·rename_i s;cases h;cases hx with
  |pv _ _ h=>cases h with
   |str l=>
    refine⟨by simp[Builtin.lenOf,ByteArray.size],fun size hs=>?_⟩;refine⟨(s.map fun b=>Value.int .u8 b.toNat).toArray, ?_, ?_, ?_⟩
    ·simp only[Builtin.firstCells,List.length_map];have:(ByteArray.mk ⟨s⟩).extract 0 s.length=⟨⟨s⟩⟩:=by
      apply ByteArray.ext;simp
     rw[this];simp
    ·rcases hs with rfl|h
     ·simp
     have:s=[]:=by simpa using h
     subst this;simp
    rcases hs with rfl|h
    ·refine⟨fun e he=>?_,fun i e j p vq hj=>?_,fun i e j p vq hj=>?_⟩
     ·simp only[List.mem_map]at he;obtain⟨b,_,rfl⟩:=he;rfl
     ·simp only[List.getElem?_map,yi]at vq;obtain⟨b,_,rfl⟩:=vq;cases j with
      |zero=>simp at hj;subst hj;rfl
      |succ j=>simp at hj
     simp only[List.getElem?_map,yi]at vq;obtain⟨b,hb,rfl⟩:=vq;cases j with
     |zero=>
      simp at hj;subst hj;exact⟨.int .u8 b.toNat,by simp[hb],.int _ _⟩
     |succ j=>simp at hj
    have:s=[]:=by simpa using h
    subst this;simp[xD]
 cases h
end
section
variable [zN] {P:Program} {w:World} {H:qn} {ι:vG} {Im:Nat->Prop}
theorem WW(Zj:Nat): ∀(r c:Nat),c<=Zj+(Zj+768) / 4->Builtin.growBy Zj r c<=Zj+(Zj+768) / 4
 |0,c,h=>h
 |r+1,c,h=>by
  simp only[Builtin.growBy];split
  ·exact h
  exact WW Zj r _ (by omega)
theorem nextslicecap_le{zm cap:Nat}(h:cap<zm):Builtin.nextslicecap zm cap<=2*zm+192:=by
 unfold Builtin.nextslicecap;split
 ·omega
 split
 ·omega
 have:=WW zm 4 cap (by omega);omega
theorem Bc{zm bytes:Nat}(h:qg zm bytes=true){cap:Nat}(hc:cap<zm):
  Builtin.nextslicecap zm cap*bytes<=2^48/\(zm:Int)<=IntKind.i64.max:=by
 unfold qg at h;simp only[zB,decide_eq_true_eq]at h;obtain⟨⟨h1,h2⟩,h3⟩:=h;refine⟨?_, ?_⟩
 ·have:=nextslicecap_le hc
  calc Builtin.nextslicecap zm cap*bytes<=(2*zm+192)*bytes:=mulR _ this
   _=2*(zm*bytes)+192*bytes:=by rw[Nat.add_mul,Nat.mul_assoc]
   _<=2^48:=by omega
 have:IntKind.i64.max=9223372036854775807:=by decide
 rw[this];omega
theorem xD.append{sz:Nat}{ly es2:List (List PV)}{Sv Sw rest:Array Value}(h1:xD w Im sz ly (Sv[·]?))(h2:xD w Im sz es2 (Sw[·]?))
  (hl:Sv.size=ly.length*sz):xD w Im sz (ly++es2) ((Sv++Sw++rest)[·]?):=by
 have Yq: ∀(i:Nat) e(j:Nat) p,ly[i]? =some e->e[j]? =some p->i*sz+j<Sv.size:=by
  intro i e j p hi hj;have xB:=(qG hi).1;have M1:=(qG hj).1;have he:=h1.1 e (qX hi);have:(i+1)*sz<=ly.length*sz:=mulR _ xB;rw[Nat.succ_mul]at this;omega
 have split: ∀(i:Nat) e,(ly++es2)[i]? =some e->(ly[i]? =some e)\/(ly.length<=i/\es2[i-ly.length]? =some e):=by
  intro i e h;rw[List.getElem?_append]at h;split at h
  ·exact .inl h
  exact .inr ⟨by omega,h⟩
 refine⟨fun e he=>?_,fun i e j p hi hj=>?_,fun i e j p hi hj=>?_⟩
 ·rcases List.mem_append.1 he with h|h
  ·exact h1.1 e h
  exact h2.1 e h
 ·rcases split i e hi with h|⟨_,h⟩
  ·exact h1.2.1 i e j p h hj
  exact h2.2.1 _ e j p h hj
 rcases split i e hi with h|⟨hle,h⟩
 ·obtain⟨v,g1,g2⟩:=h1.2.2 i e j p h hj;refine⟨v, ?_,g2⟩;have:=Yq i e j p h hj;simp only[Array.append_assoc];rw[Array.getElem?_append_left this];exact g1
 obtain⟨v,g1,g2⟩:=h2.2.2 _ e j p h hj;refine⟨v, ?_,g2⟩;have e1:i*sz+j=Sv.size+((i-ly.length)*sz+j):=by
  rw[hl];have:i=ly.length+(i-ly.length):=by omega
  conv=>lhs;rw[this,Nat.add_mul]
  omega
 have xB:(i-ly.length)*sz+j<Sw.size:=by
  rcases Nat.lt_or_ge ((i-ly.length)*sz+j) Sw.size with h|h
  ·exact h
  have:Sw[(i-ly.length)*sz+j]? =none:=Array.getElem?_eq_none h;simp only[this]at g1;cases g1
 show(Sv++Sw++rest)[i*sz+j]? =some v;rw[e1,Array.getElem?_append_left (by simp;omega),Array.getElem?_append_right (by omega)];simpa using g1
theorem gv.append{sz:Nat}{ly es2:List (List AV)}{Sv Sw rest:Array Value}(h1:gv w H ι Im sz ly (Sv[·]?))(h2:gv w H ι Im sz es2 (Sw[·]?))
  (hl:Sv.size=ly.length*sz):gv w H ι Im sz (ly++es2) ((Sv++Sw++rest)[·]?):=by
 have Yq: ∀(i:Nat) e(j:Nat) p,ly[i]? =some e->e[j]? =some p->i*sz+j<Sv.size:=by
  intro i e j p hi hj;have xB:=(qG hi).1;have M1:=(qG hj).1;have he:=h1.1 e (qX hi);have:(i+1)*sz<=ly.length*sz:=mulR _ xB;rw[Nat.succ_mul]at this;omega
 have split: ∀(i:Nat) e,(ly++es2)[i]? =some e->(ly[i]? =some e)\/(ly.length<=i/\es2[i-ly.length]? =some e):=by
  intro i e h;rw[List.getElem?_append]at h;split at h
  ·exact .inl h
  exact .inr ⟨by omega,h⟩
 refine⟨fun e he=>?_,fun i e j p hi hj=>?_,fun i e j p hi hj=>?_⟩
 ·rcases List.mem_append.1 he with h|h
  ·exact h1.1 e h
  exact h2.1 e h
 ·rcases split i e hi with h|⟨_,h⟩
  ·exact h1.2.1 i e j p h hj
  exact h2.2.1 _ e j p h hj
 rcases split i e hi with h|⟨hle,h⟩
 ·obtain⟨v,g1,g2⟩:=h1.2.2 i e j p h hj;refine⟨v, ?_,g2⟩;have:=Yq i e j p h hj;simp only[Array.append_assoc];rw[Array.getElem?_append_left this];exact g1
 obtain⟨v,g1,g2⟩:=h2.2.2 _ e j p h hj;refine⟨v, ?_,g2⟩;have e1:i*sz+j=Sv.size+((i-ly.length)*sz+j):=by
  rw[hl];have:i=ly.length+(i-ly.length):=by omega
  conv=>lhs;rw[this,Nat.add_mul]
  omega
 have xB:(i-ly.length)*sz+j<Sw.size:=by
  rcases Nat.lt_or_ge ((i-ly.length)*sz+j) Sw.size with h|h
  ·exact h
  have:Sw[(i-ly.length)*sz+j]? =none:=Array.getElem?_eq_none h;simp only[this]at g1;cases g1
 show(Sv++Sw++rest)[i*sz+j]? =some v;rw[e1,Array.getElem?_append_left (by simp;omega),Array.getElem?_append_right (by omega)];simpa using g1
def kQ(w:World):World:={ w with drawn:=w.drawn+1 }
theorem hZ{ts tx e:TypeId}{ti te eK:TI}(Ql:zx P ts ti)(xr:ti.td= .slice e)(rE:zx P e te)(Qm:zx P tx eK)
  (oi:(∃ e',eK.td= .slice e')\/eK.td= .string) (tt:TypeId) (base:Option Addr) (n cap k:Nat) (v:Value)
  (hlen:(Builtin.lenOf v).run P w= .ok k w) (BH:cap<n+k) (wV:qg (n+k) te.bytes=true)
  (Wh new:Array Value)
  (ho:(Builtin.firstCells te.size n (.slice base n cap)).run P (kQ w)= .ok Wh (kQ w))
  (hn:(Builtin.firstCells te.size k v).run P (kQ w)= .ok new (kQ w)):
  ∃(cJ:Nat)(rest:Array Value),n+k<=cJ/\rest.size=(cJ-(n+k))*te.size/\
   (Builtin.append_ #[ts,tx] tt #[.slice base n cap,v]).run P w=
    .ok (.slice (some ⟨w.heap.size,0,none⟩) (n+k) cJ) { kQ w with heap:=w.heap.push (.cells (Wh++new++rest) e) }:=by
 obtain⟨i,z,q1,q2,q3,q4,q5,q6⟩:=rE.info;obtain⟨r1,r2⟩:=Bc wV BH;have hzl:z.cells.size=te.size:=by
  have:=(QD (w:=w) (Im:=fun _=>True) q5).1;have:=rE.len;simp at*
  omega
 let nc:Nat:=Question.cut (.appendCap (n+k) cap e) (w.tape w.drawn (.appendCap (n+k) cap e))
 have hnc:n+k<=nc:=by simp[nc,Question.cut]
 refine⟨nc,Builtin.zeroCells z.cells (nc-(n+k)),hnc,by simp[Builtin.zeroCells,hzl], ?_⟩;have hzero:(zeroValue e).run P (kQ w)= .ok z (kQ w):=by simp[zeroValue,uQ q1,q4]
 have hno1: ¬(n+k<=cap):=by omega
 have hno3: ¬(Builtin.nextslicecap (n+k) cap*te.bytes>2^48):=by omega
 have hno2: ¬(((n+k:Nat):Int)>IntKind.i64.max):=by omega
 have htxx:P.underlying tx=some .string\/ ∃e',P.underlying tx=some (.slice e'):=by
  rcases oi with ⟨e',h⟩|h
  ·exact .inr ⟨_,Qm.slice h⟩
  exact .inl (Qm.string h)
 have W7:(choose (Question.appendCap (n+k) cap e)).run P w= .ok nc (kQ w):=by
  simp[choose,Sem.run,Question.forced,nc,kQ]
 have i7: ∀w',(typeInfo e).run P w' = .ok i w' :=fun w' =>uQ q1;rw[<- q3]at hno3;unfold Builtin.append_;rcases htxx with hd|⟨e',hd⟩;all_goals
  simp only[List.getElem?_toArray,List.getElem?_cons_zero,List.getElem?_cons_succ,ji,qv (Ql.slice xr),gm,rE.size,qv hd,Sem.run_pure,hlen,
   w9,if_false,hno1,i7,hno2,false_and,hno3,W7,run_askRoom,ho,Bool.not_false,if_true,hn,hzero,newRow,run_newObj]
  rfl
theorem run_append_fits{ts tx e:TypeId}{ti te eK:TI}(Ql:zx P ts ti)(xr:ti.td= .slice e)(rE:zx P e te)(Qm:zx P tx eK)
  (oi:(∃ e',eK.td= .slice e')\/eK.td= .string) (tt:TypeId) (base:Option Addr) (n cap k:Nat) (v:Value)
  (hlen:(Builtin.lenOf v).run P w= .ok k w) (hle:n+k<=cap) (new:Array Value) (hnew:(Builtin.firstCells te.size k v).run P w= .ok new w) (w' :World)
  (XH: ∀a,base=some a->(storeCells (a.add (n*te.size)) new.toList).run P w= .ok () w') (V0:base=none->w' =w):
  (Builtin.append_ #[ts,tx] tt #[.slice base n cap,v]).run P w= .ok (.slice base (n+k) cap) w' :=by
 have htxx:P.underlying tx=some .string\/ ∃e',P.underlying tx=some (.slice e'):=by
  rcases oi with ⟨e',h⟩|h
  ·exact .inr ⟨_,Qm.slice h⟩
  exact .inl (Qm.string h)
 unfold Builtin.append_;rcases htxx with hd|⟨e',hd⟩;all_goals
  simp only[List.getElem?_toArray,List.getElem?_cons_zero,List.getElem?_cons_succ,ji,qv (Ql.slice xr),gm,rE.size,qv hd,Sem.run_pure,hlen,
   w9,if_false,hle,Bool.not_false,if_true,hnew]
  cases base with
  |none=>rw[V0 rfl];rfl
  |some a=>simp only[ji,XH a rfl,gm,Sem.run_pure]
theorem ZK{ts tx e:TypeId}{ti te eK:TI}(Ql:zx P ts ti)(xr:ti.td= .slice e)(rE:zx P e te)(Qm:zx P tx eK)
  (oi:(∃ e',eK.td= .slice e')\/eK.td= .string) (tt:TypeId) (hi:qW w H ι Im) {y:AV} {vy:Value} (hy:RA w H ι Im y vy)
  {mU:Nat} {src:List (List PV)} (nP:vT y H=some (mU,src)) (bO:mU=te.size\/src=[]) (jv:src≠[]) (wV:qg src.length te.bytes=true)
  (base:Option Addr):
  ∃(cJ:Nat)(w' :World)(cs:Array Value),src.length<=cJ/\(w'.heap=w.heap.push (.cells cs e)/\w'.os=w.os/\w'.output=w.output)/\cs.size=cJ*te.size/\xD w Im te.size src (cs[·]?)/\
   (Builtin.append_ #[ts,tx] tt #[.slice base 0 0,vy]).run P w= .ok (.slice (some ⟨w.heap.size,0,none⟩) src.length cJ) w' :=by
 obtain⟨l1,l2⟩:=mT (P:=P) hi hy nP;have bU:0<src.length:=List.length_pos_iff.2 jv;have hw:(kQ w).heap=w.heap:=rfl;obtain⟨new,k1,k2,k3⟩:=(mT (P:=P) (hi.yu hw ⟨rfl,rfl⟩) (hy.yu hw ⟨rfl,rfl⟩ hi) nP).2 te.size bO;obtain⟨nc,rest,g1,g3,g4⟩:=hZ (w:=w) Ql xr rE Qm oi tt base 0 0 src.length vy l1 (by omega) (by simpa using wV) #[] new
  (by
   cases base with
   |none=>simp[Builtin.firstCells]
   |some a=>simp[Builtin.firstCells,loadCells,loadCellsFrom]) k1
 have Xn:xD (kQ w) Im te.size [] (((#[]:Array Value))[·]?):=by simp[xD]
 have cE:=xD.append (rest:=rest) Xn k3 (by simp);refine⟨nc, { kQ w with heap:=w.heap.push (.cells (new++rest) e) },_,by omega,⟨rfl,rfl,rfl⟩, ?_, ?_,by simpa using g4⟩
 ·simp only[Array.size_append,k2,g3];simp only[Nat.zero_add,Array.size_empty];rw[<- Nat.add_mul];congr 1;omega
 have:=cE.mono (w' :=w) (jA:=Im) (fun _ h=>h) (fun b _=>by rw[hw]);simpa using this
theorem L4{α:Type}(es src:List α){n:Nat}(h:n=es.length):es.take n++src++es.drop (n+src.length)=es++src:=by
 subst h;simp[List.drop_eq_nil_of_le]
theorem rA(hi:qW w H ι Im){x:AV}{v:Value}(hx:RA w H ι Im x v){mU:Nat}{src:List (List AV)}(h:dF x H=some (mU,src)):
  (Builtin.lenOf v).run P w= .ok src.length w/\
  ∃cs,(Builtin.firstCells mU src.length v).run P w= .ok cs w/\cs.size=src.length*mU/\gv w H ι Im mU src (cs[·]?):=by
 unfold dF at h;split at h;rotate_left
 ·cases h
 rename_i β zF off n;split at h;rotate_left
 ·cases h
 rename_i sz es hb;split at h<;>cases h;rename_i xU;cases hx with
 |row _ _ _ _ _ b ho xQ hk hv hh=>
 rw[hb]at xQ;cases xQ;obtain⟨h1,h2⟩:=hh _ _ _ rfl xU;have hln:((es.drop off).take n).length=n:=by simp;omega
 simp only[w9,if_false]at h2;obtain⟨a,rfl,fS,dS,eY⟩:=h2;obtain⟨ab,ao,T9⟩:=a;simp only at fS dS eY;subst fS dS;refine⟨by rw[hln];simp[Builtin.lenOf], ?_⟩;by_cases UE:n=0
 ·subst UE;refine⟨#[], ?_,by simp,by simp[gv]⟩;simp[Builtin.firstCells,loadCells,loadCellsFrom]
 obtain⟨vs,elem,fz,g1,g2,g3,g4,g5,g6,g7,g8⟩:=hi.yq hb;have SO:=eY (by omega);subst SO;have mr: ∀(i:Nat) e,((es.drop off).take n)[i]? =some e->i<n/\es[off+i]? =some e:=by
  intro i e W9;have:=(qG W9).1;have sG:i<n:=by omega
  rw[List.getElem?_take_of_lt sG,List.getElem?_drop]at W9;exact⟨sG,W9⟩
 have hmul:off*mU+n*mU<=es.length*mU:=by rw[<- Nat.add_mul];exact mulR _ h1
 have hmul2:es.length*mU<=(ι β).cap*mU:=mulR _ g5;rw[hln];refine⟨((List.range (n*mU)).map fun j=>(vs[off*mU+j]?).getD undef).toArray, ?_,by simp,fun e he=>?_,fun i e j p W9 hj=>?_,fun i e j p W9 hj=>?_⟩
 ·simp only[Builtin.firstCells];refine run_loadCells _ _ _ _ fun j hj=>?_;rw[ux g1];have:off*mU+j<vs.size:=by omega
  simp[this]
 ·exact g6 e (List.mem_of_mem_drop (List.mem_of_mem_take he))
 ·exact g7 _ e j p (mr i e W9).2 hj
 obtain⟨sG,E6⟩:=mr i e W9;obtain⟨v,k1,k2⟩:=g8 _ e j p E6 hj;have M1:=(qG hj).1;have he:=g6 e (qX E6);have:(i+1)*mU<=n*mU:=mulR _ sG;rw[Nat.succ_mul]at this;refine⟨v, ?_,k2⟩;have e1:off*mU+(i*mU+j)=(off+i)*mU+j:=by rw[Nat.add_mul];omega
 simp only[List.getElem?_toArray,List.getElem?_map];rw[List.getElem?_range (by omega)];simp only[Option.map_some,e1,k1,Option.getD_some]
theorem eo{ts tx e:TypeId}{ti te eK:TI}(Ql:zx P ts ti)(xr:ti.td= .slice e)(rE:zx P e te)(Qm:zx P tx eK)
  (oi:(∃ e',eK.td= .slice e')\/eK.td= .string) (tt:TypeId) (hi:qW w H ι Im) {y:AV} {vy:Value} (hy:RA w H ι Im y vy)
  {src:List (List AV)} (nP:dF y H=some (te.size,src)) (jv:src≠[]) (wV:qg src.length te.bytes=true):
  ∃(cJ:Nat)(w' :World)(cs:Array Value),src.length<=cJ/\(w'.heap=w.heap.push (.cells cs e)/\w'.os=w.os/\w'.output=w.output)/\cs.size=cJ*te.size/\gv w H ι Im te.size src (cs[·]?)/\
   (Builtin.append_ #[ts,tx] tt #[.slice none 0 0,vy]).run P w= .ok (.slice (some ⟨w.heap.size,0,none⟩) src.length cJ) w' :=by
 obtain⟨l1,l2⟩:=rA (P:=P) hi hy nP;have bU:0<src.length:=List.length_pos_iff.2 jv;have hw:(kQ w).heap=w.heap:=rfl;have vq:=hi.yu hw ⟨rfl,rfl⟩;obtain⟨new,k1,k2,k3⟩:=(rA (P:=P) vq (hy.yu hw ⟨rfl,rfl⟩ hi) nP).2;obtain⟨nc,rest,g1,g3,g4⟩:=hZ (w:=w) Ql xr rE Qm oi tt none 0 0 src.length vy l1 (by omega) (by simpa using wV) #[] new (by simp[Builtin.firstCells]) k1;have Xn:gv (kQ w) H ι Im te.size [] (((#[]:Array Value))[·]?):=by simp[gv]
 have cE:=gv.append (rest:=rest) Xn k3 (by simp);refine⟨nc, { kQ w with heap:=w.heap.push (.cells (new++rest) e) },_,by omega,⟨rfl,rfl,rfl⟩, ?_, ?_,by simpa using g4⟩
 ·simp only[Array.size_append,k2,g3];simp only[Nat.zero_add,Array.size_empty];rw[<- Nat.add_mul];congr 1;omega
 have:=cE.mono (w' :=w) (H' :=H) (ι' :=ι) (jA:=Im) vq (w8.yu (w:=kQ w) (w' :=w) rfl ⟨rfl,rfl⟩);simpa using this
theorem Ha{ts tx e:TypeId}{ti te eK:TI}(Ql:zx P ts ti)(xr:ti.td= .slice e)(rE:zx P e te)(Qm:zx P tx eK)
  (oi:(∃ e',eK.td= .slice e')\/eK.td= .string) (tt:TypeId) (hi:qW w H ι Im) {nx:Nat} {X:Nat->Prop} (xt:Bd X H nx)
  {x y:AV} {vx vy:Value} (hx:RA w H ι Im x vx) (hy:RA w H ι Im y vy) {r:bY} (hr:bx te x y H nx=some r) (hX: ∀γ,X γ->r.2.2<=γ):
  ∃u w',(Builtin.append_ #[ts,tx] tt #[vx,vy]).run P w= .ok u w' /\mH X w H ι Im nx r u w' :=by
 unfold bx at hr;split at hr
 ·cases hr
 rename_i mU src nP;split at hr;rotate_left
 ·cases hr
 rename_i hc;obtain⟨rfl,bU⟩:=hc;obtain⟨l1,cs,f1,f2,f3⟩:=rA (P:=P) hi hy nP;split at hr
 ·cases hx with
  |pv _ _ h=>cases h with
   |cK=>
    unfold ek at hr;split at hr
    ·cases hr
    split at hr<;>cases hr;rename_i wV;obtain⟨nc,w',DG,g1,g2,g3,g4,g5⟩:=eo Ql xr rE Qm oi tt hi hy nP (by simp) wV;exact⟨_,w',g5,GD hi xt (sS hX) te.size _ DG e (0,0) nc w' g2.1 g2.2 (xE _) bU g3 g1 g4⟩
 ·rename_i β zF off n;split at hr
  ·rename_i sz es hb;split at hr;rotate_left
   ·cases hr
   rename_i hc;obtain⟨xU,cD,hn⟩:=hc;subst cD hn;cases hx with
   |row _ _ _ _ _ b ho xQ hk hv hh=>
   rw[hb]at xQ;cases xQ;obtain⟨h1,h2⟩:=hh _ _ _ rfl xU;simp only[if_true]at h2;subst h2;have rS:es=[]:=hi.mX β _ hb;subst rS;unfold ek at hr;split at hr
   ·cases hr
   rename_i a0 l0;split at hr<;>cases hr;rename_i wV;obtain⟨nc,w',DG,g1,g2,g3,g4,g5⟩:=eo Ql xr rE Qm oi tt hi hy nP (by simp) wV;refine⟨_,w',g5,jj ι β ⟨w.heap.size,nc,[]⟩, ?_⟩;have key:=qW.put (Qh:=TM hb rfl) hi (w' :=w') β (.yq te.size (a0::l0)) ⟨w.heap.size,nc,[]⟩ (fun x hx=>by rw[hb]at hx;cases hx;simp[xi,qD.sh,Pl.ka])
    ⟨by rw[g2.1];simp,g2.2⟩ (fun b' xQ _=>by rw[g2.1];simp[Array.getElem?_push,Nat.ne_of_lt xQ]) (fun _=> .inl (xJ _)) (fun he=>by
     obtain⟨k1,k2,k3⟩:=g4.mono hi he
     exact⟨DG,e,(0,0),by simp[g2],xE _,by simp[g3],bU,by simpa using g1,k1,k2,k3⟩)
   refine⟨key.1,key.2, ?_,xJ _,ki xt (xJ _) (xt β _ hb)⟩;have hg:(qS [(β,qD.yq te.size (a0::l0))] H).get β=some (.yq te.size (a0::l0)):=by simp[qS,qn.qZ]
   refine .row β _ 0 _ _ _ rfl hg (fun _=>⟨_,_,_,rfl⟩) (fun _ _ _ e=>by cases e;exact xJ _) fun _ _ _ e _=>?_;cases e;refine⟨by simp, ?_⟩;simp only[w9,if_false];exact⟨⟨w.heap.size,0,none⟩,by simp,rfl,by simp,fun _=>by simp⟩
  ·rename_i sz es hb;split at hr<;>cases hr;rename_i hc;obtain⟨xU,rfl,rfl,rfl,wV⟩:=hc;have C7:=hx;cases hx with
   |row _ _ _ _ _ b ho xQ hk hv hh=>
   rw[hb]at xQ;cases xQ;obtain⟨h1,h2⟩:=hh _ _ _ rfl xU;simp only[w9,if_false]at h2;obtain⟨a,rfl,fS,dS,eY⟩:=h2;obtain⟨ab,ao,T9⟩:=a;simp only at fS dS eY;subst fS dS;obtain⟨vs,elem,fz,g1,g2,g3,g4,g5,g6,g7,g8⟩:=hi.yq hb;have hg:(qS [(β,qD.yq te.size (es++src))] H).get β=some (.yq te.size (es++src)):=by simp[qS,qn.qZ]
   have hspl: ∀(i:Nat) e0,(es++src)[i]? =some e0->(i<es.length/\es[i]? =some e0)\/(es.length<=i/\src[i-es.length]? =some e0):=by
    intro i e0 h;rw[List.getElem?_append]at h;split at h
    ·exact .inl ⟨by assumption,h⟩
    exact .inr ⟨by omega,h⟩
   by_cases pC:es.length+src.length<=(ι β).cap
   ·
    by_cases hs:src=[]
    ·subst hs;have AZ:cs.size=0:=by rw[f2];simp
     have lY:cs.toList=[]:=by simpa using AZ
     have JN:=run_append_fits (w' :=w) Ql xr rE Qm oi tt (some ⟨(ι β).b,ao,none⟩) es.length ((ι β).cap-0) 0 vy l1 (by simpa using pC) cs f1
      (fun a ha=>by rw[lY];rfl) (fun h=>by cases h)
     refine⟨_,w,JN,jj ι β (ι β), ?_⟩;simp only[List.append_nil]at hg |-;have key:=qW.put (Qh:=TM hb rfl) hi (w' :=w) β (.yq te.size es) (ι β) (fun x hx=>by rw[hb]at hx;cases hx;exact vV _ _)
      ⟨xJ _,rfl,rfl⟩ (fun _ _ _=>rfl) (fun _=> .inr ⟨_,hb,rfl,rfl⟩) (fun bM=>(hi.mX β _ hb).mono hi bM (fun _=>⟨by simp,fun _ _=>rfl⟩))
     refine⟨key.1,key.2, ?_,xJ _,ki xt (xJ _) (xt β _ hb)⟩;have:=C7.mono hi key.2;rw[xU]at this;exact this
    have SO:ao=0:=by
     have:=List.length_pos_iff.2 hs;have:=eY (by omega);omega
    subst SO;have Z9: ∀x∈cs.toList,s7 x=true:=by
     intro x hx;obtain⟨m,hm⟩:=jz hx;have JJ:m<src.length*te.size:=by
      have:=(qG hm).1;simp at this;omega
     have hdiv:m / te.size<src.length:=Nat.div_lt_of_lt_mul (by rwa[Nat.mul_comm]);have hmod:m % te.size<te.size:=Nat.mod_lt _ bU;obtain⟨e0,KI⟩: ∃e0,src[m / te.size]? =some e0:=⟨src[m / te.size],by simp⟩;have Yt:=f3.1 e0 (qX KI);obtain⟨p0,Lx⟩: ∃p0,e0[m % te.size]? =some p0:=⟨e0[m % te.size]'(by omega),by simp⟩;obtain⟨v0,q1,q2⟩:=f3.2.2 _ e0 _ p0 KI Lx;have:m / te.size*te.size+m % te.size=m:=by rw[Nat.mul_comm];exact Nat.div_add_mod m te.size
     simp only[this]at q1;have:x=v0:=by
      have h0:cs[m]? =some x:=by simpa using hm
      rw[h0]at q1;exact Option.some.inj q1
     subst this;exact q2.s7 (f3.2.1 _ e0 _ p0 KI Lx)
    have hmul:es.length*te.size+src.length*te.size<=vs.size:=by
     rw[g3,<- Nat.add_mul];exact mulR _ pC
    obtain⟨w',q1,q2,q3,dH,q4,q5,q6⟩:=wQ (P:=P) (ι β).b (es.length*te.size) elem fz cs.toList 0 w vs g1 g2 (by simp[f2];omega) Z9;have JN:=run_append_fits (w' :=w') Ql xr rE Qm oi tt (some ⟨(ι β).b,0,none⟩) es.length ((ι β).cap-0) src.length vy l1 (by omega) cs f1
     (fun a ha=>by cases ha;rw[add_plain,Nat.zero_add];exact q1) (fun h=>by cases h)
    refine⟨_,w',JN,jj ι β (ι β), ?_⟩;have key:=qW.put (Qh:=TM hb rfl) hi (w' :=w') β (.yq te.size (es++src)) (ι β)
     (fun x hx=>by
      rw[hb]at hx
      cases hx
      simp only[xi,qD.sh]
      exact⟨by simp,fun _=>⟨by simp,fun _=>⟨by simp,Pl.ou _⟩⟩⟩)
     ⟨by omega,q2.2⟩ (fun b' _ jv=>q3 b' (fun e=>jv _ hb rfl e.symm)) (fun _=> .inr ⟨_,hb,rfl,rfl⟩) (fun bM=>by
      refine⟨dH,elem,fz,by simpa using q4,by rw[q5];exact g2,by simp[q5,g3],bU,by simp only[jT,List.length_append];omega, ?_, ?_, ?_⟩
      ·intro e0 KI
       rcases List.mem_append.1 KI with h|h
       ·exact g6 e0 h
       exact f3.1 e0 h
      ·intro i e0 j p vq hj
       rcases hspl i e0 vq with ⟨_,h⟩|⟨_,h⟩
       ·exact g7 _ e0 j p h hj
       exact f3.2.1 _ e0 j p h hj
      intro i e0 j p vq hj
      have M1:=(qG hj).1
      rw[q6]
      simp only[Nat.add_zero,Array.length_toList,f2]
      rcases hspl i e0 vq with ⟨xB,h⟩|⟨hge,h⟩
      ·obtain⟨v0,w1,w2⟩:=g8 _ e0 j p h hj
       have Yt:=g6 e0 (qX h)
       have:(i+1)*te.size<=es.length*te.size:=mulR _ xB
       rw[Nat.succ_mul]at this
       rw[if_neg (by omega)]
       exact⟨v0,w1,w2.mono hi bM⟩
      obtain⟨v0,w1,w2⟩:=f3.2.2 _ e0 j p h hj
      have Yt:=f3.1 e0 (qX h)
      have fD:=(qG h).1
      have e1:i*te.size+j-es.length*te.size=(i-es.length)*te.size+j:=by
       have:i=es.length+(i-es.length):=by omega
       conv=>lhs;rw[this,Nat.add_mul]
       omega
      have e2:es.length*te.size<=i*te.size:=mulR _ hge
      have e3:(i+1)*te.size<=(es.length+src.length)*te.size:=mulR _ (by omega)
      rw[Nat.succ_mul,Nat.add_mul]at e3
      rw[if_pos ⟨by omega,by omega⟩,e1]
      exact⟨v0,by simpa using w1,w2.mono hi bM⟩)
    refine⟨key.1,key.2, ?_,xJ _,ki xt (xJ _) (xt β _ hb)⟩;refine .row β _ 0 _ _ _ rfl hg (fun _=>⟨_,_,_,rfl⟩) (fun _ _ _ e=>by cases e;exact xJ _) fun _ _ _ e _=>?_;cases e;refine⟨by simp, ?_⟩;simp only[w9,if_false,List.length_append];exact⟨⟨(ι β).b,0,none⟩,by simp,rfl,by simp,fun _=>by simp⟩
   
   have hw:(kQ w).heap=w.heap:=rfl;have vq:=hi.yu hw ⟨rfl,rfl⟩;have En:dF (.row β zF 0 es.length) H=some (te.size,es):=by
    simp[dF,hb,xU]
   obtain⟨Wh,k1,k2,k3⟩:=(rA (P:=P) vq (C7.yu hw ⟨rfl,rfl⟩ hi) En).2;obtain⟨new,m1,m2,m3⟩:=(rA (P:=P) vq (hy.yu hw ⟨rfl,rfl⟩ hi) nP).2;obtain⟨nc,rest,r1,r2,r3⟩:=hZ (w:=w) Ql xr rE Qm oi tt (some ⟨(ι β).b,ao,none⟩) es.length ((ι β).cap-0) src.length vy l1 (by omega) wV Wh new k1 m1;have cE:=gv.append (rest:=rest) k3 m3 (by rw[k2]);have El:=cE.mono (w' :=w) (H' :=H) (ι' :=ι) (jA:=Im) vq (w8.yu (w:=kQ w) (w' :=w) rfl ⟨rfl,rfl⟩);refine⟨_,_,r3,jj ι β ⟨w.heap.size,nc,[]⟩, ?_⟩;have key:=qW.put (Qh:=TM hb rfl) hi (w' :={ kQ w with heap:=w.heap.push (.cells (Wh++new++rest) e) }) β (.yq te.size (es++src)) ⟨w.heap.size,nc,[]⟩
    (fun x hx=>by
     rw[hb]at hx
     cases hx
     simp only[xi,qD.sh,List.length_append]
     refine⟨by omega,fun h=>?_⟩
     have:(ι β).cap<es.length:=by omega
     omega)
    ⟨by simp,rfl,rfl⟩ (fun b' xQ _=>by simp[Array.getElem?_push,Nat.ne_of_lt xQ]) (fun _=> .inl (xJ _)) (fun he=>by
     obtain⟨p1,p2,p3⟩:=El.mono hi he
     refine⟨Wh++new++rest,e,(0,0),by simp,xE _, ?_,bU,by simp only[jT,List.length_append];omega,p1,p2,p3⟩
     simp only[jT,Array.size_append,k2,m2,r2,<- Nat.add_mul]
     congr 1
     omega)
   refine⟨key.1,key.2, ?_,xJ _,ki xt (xJ _) (xt β _ hb)⟩;refine .row β _ 0 _ _ _ rfl hg (fun _=>⟨_,_,_,rfl⟩) (fun _ _ _ e=>by cases e;exact xJ _) fun _ _ _ e _=>?_;cases e;refine⟨by simp, ?_⟩;simp only[w9,if_false,List.length_append];exact⟨⟨w.heap.size,0,none⟩,by simp,rfl,by simp,fun _=>by simp⟩
  cases hr
 cases hr
theorem Ni{ts tx e:TypeId}{ti te eK:TI}(Ql:zx P ts ti)(xr:ti.td= .slice e)(rE:zx P e te)(Qm:zx P tx eK)
  (oi:(∃ e',eK.td= .slice e')\/eK.td= .string) (tt:TypeId) (hi:qW w H ι Im) {nx:Nat} {X:Nat->Prop} (xt:Bd X H nx)
  {x y:AV} {vx vy:Value} (hx:RA w H ι Im x vx) (hy:RA w H ι Im y vy) {r:bY} (hr:ua te x y H nx=some r) (hX: ∀γ,X γ->r.2.2<=γ):
  ∃u w',(Builtin.append_ #[ts,tx] tt #[vx,vy]).run P w= .ok u w' /\mH X w H ι Im nx r u w' :=by
 unfold ua at hr;split at hr
 ·exact Ha Ql xr rE Qm oi tt hi xt hx hy hr hX
 rename_i mU src nP;split at hr;rotate_left
 ·cases hr
 rename_i hc;obtain⟨bO,bU⟩:=hc;obtain⟨l1,l2⟩:=mT (P:=P) hi hy nP;obtain⟨cs,f1,f2,f3⟩:=l2 te.size bO;have none0: ∀(base:Option Addr),RA w H ι Im x (.slice base 0 0)->src=[]->
   ∃u w',(Builtin.append_ #[ts,tx] tt #[.slice base 0 0,vy]).run P w= .ok u w' /\mH X w H ι Im nx (x,[],nx) u w' :=by
  intro base hxv hs;subst hs;refine⟨_,w,run_append_fits Ql xr rE Qm oi tt base 0 0 0 vy l1 (xJ _) cs f1 w (fun a ha=>?_) (fun _=>rfl),mH.pure hi xt hxv⟩;have:cs.toList=[]:=by
   have:cs.size=0:=by simpa using f2
   simpa using this
  rw[this];rfl
 have fresh: ∀(base:Option Addr),RA w H ι Im x (.slice base 0 0)->
   jH te x src nx nx (nx+1)=some r->
   ∃u w',(Builtin.append_ #[ts,tx] tt #[.slice base 0 0,vy]).run P w= .ok u w' /\mH X w H ι Im nx r u w' :=by
  intro base hxv hr;unfold jH at hr;split at hr
  ·cases hr;exact none0 base hxv rfl
  split at hr<;>cases hr;rename_i wV;obtain⟨nc,w',DG,g1,g2,g3,g4,g5⟩:=ZK Ql xr rE Qm oi tt hi hy nP bO (by simp) wV base;exact⟨_,w',g5,XO hi xt (sS hX) te.size _ DG e (0,0) nc w' g2.1 g2.2 (xE _) bU g3 g1 g4⟩
 split at hr
 ·cases hx with
  |pv _ _ h=>cases h with
   |cK=>exact fresh none (.pv _ _ (.cK _)) hr
 ·cases hx with
  |aU a=>exact fresh _ (.aU a) hr
 ·rename_i β zF off n;split at hr
  ·rename_i sz es hb;split at hr;rotate_left
   ·cases hr
   rename_i hc;obtain⟨xU,cD,hn⟩:=hc;subst cD hn;have C7:=hx;cases hx with
   |row _ _ _ _ _ b ho xQ hk hv hh=>
   rw[hb]at xQ;cases xQ;obtain⟨h1,h2⟩:=hh _ _ _ rfl xU;simp only[if_true]at h2;subst h2;have rS:es=[]:=hi.mX β _ hb;subst rS;unfold jH at hr;split at hr
   ·cases hr;exact none0 none C7 rfl
   rename_i a0 l0;split at hr<;>cases hr;rename_i wV;obtain⟨nc,w',DG,g1,g2,g3,g4,g5⟩:=ZK Ql xr rE Qm oi tt hi hy nP bO (by simp) wV none;refine⟨_,w',g5,jj ι β ⟨w.heap.size,nc,[]⟩, ?_⟩;have key:=qW.put (Qh:=TM hb rfl) hi (w' :=w') β (.row false te.size (a0::l0)) ⟨w.heap.size,nc,[]⟩ (fun x hx=>by rw[hb]at hx;cases hx;simp[xi,qD.sh,Pl.ka])
    ⟨by rw[g2.1];simp,g2.2⟩ (fun b' xQ _=>by rw[g2.1];simp[Array.getElem?_push,Nat.ne_of_lt xQ]) (fun _=> .inl (xJ _)) (fun he=>by
     have hk: ∀b,Im b->w'.heap[b]? =w.heap[b]? :=fun b hb=>he.Qo hi b hb
     obtain⟨k1,k2,k3⟩:=g4.mono he.im hk
     exact⟨DG,e,(0,0),by simp[g2],xE _,by simp[g3],bU,by simpa using g1,k1,k2,k3⟩)
   refine⟨key.1,key.2, ?_,xJ _,ki xt (xJ _) (xt β _ hb)⟩;have hg:(qS [(β,qD.row false te.size (a0::l0))] H).get β=some (.row false te.size (a0::l0)):=by simp[qS,qn.qZ]
   refine .row β _ 0 _ _ _ rfl hg (fun _=>⟨_,_,_,rfl⟩) (fun _ _ _ e=>by cases e;exact xJ _) fun _ _ _ e _=>?_;cases e;refine⟨by simp, ?_⟩;simp only[w9,if_false];exact⟨⟨w.heap.size,0,none⟩,by simp,rfl,by simp,fun _=>by simp⟩
  ·rename_i sz es hb;split at hr;rotate_left
   ·cases hr
   rename_i hc;obtain⟨xU,hszz,cD,wV⟩:=hc;subst cD hszz;have Lz:r=(.row β (es.take n++src++es.drop (n+src.length)).length 0 (n+src.length),[(β,.row false te.size (es.take n++src++es.drop (n+src.length)))],nx):=by
    split at hr<;>cases hr
    ·rename_i hn;rw[L4 es src hn,hn];simp
    rfl
   subst Lz;clear hr;cases hx with
   |row _ _ _ _ _ b ho xQ hk hv hh=>
   rw[hb]at xQ;cases xQ;obtain⟨h1,h2⟩:=hh _ _ _ rfl xU;simp only[w9,if_false]at h2;obtain⟨a,rfl,fS,dS,eY⟩:=h2;obtain⟨ab,ao,T9⟩:=a;simp only at fS dS eY;subst fS dS;obtain⟨vs,elem,fz,g1,g2,g3,g4,g5,g6,g7,g8⟩:=hi.row hb;have hes' :(es.take n++src++es.drop (n+src.length)).length=max es.length (n+src.length):=by
    simp;omega
   by_cases pC:n+src.length<=(ι β).cap
   ·
    have SO:src≠[]->ao=0:=fun jv=>by
     have:=List.length_pos_iff.2 jv;have:=eY (by omega);omega
    have Z9: ∀x∈cs.toList,s7 x=true:=by
     intro x hx;obtain⟨m,hm⟩:=jz hx;have JJ:m<src.length*te.size:=by
      have:=(qG hm).1;simp at this;omega
     have hdiv:m / te.size<src.length:=Nat.div_lt_of_lt_mul (by rwa[Nat.mul_comm]);have hmod:m % te.size<te.size:=Nat.mod_lt _ bU;obtain⟨e0,KI⟩: ∃e0,src[m / te.size]? =some e0:=⟨src[m / te.size],by simp⟩;have Yt:=f3.1 e0 (qX KI);obtain⟨p0,Lx⟩: ∃p0,e0[m % te.size]? =some p0:=⟨e0[m % te.size]'(by omega),by simp⟩;obtain⟨v0,q1,q2⟩:=f3.2.2 _ e0 _ p0 KI Lx;have:m / te.size*te.size+m % te.size=m:=by rw[Nat.mul_comm];exact Nat.div_add_mod m te.size
     simp only[this]at q1;have:x=v0:=by
      have h0:cs[m]? =some x:=by simpa using hm
      rw[h0]at q1;exact Option.some.inj q1
     subst this;exact q2.s7 (f3.2.1 _ e0 _ p0 KI Lx)
    have hmul:n*te.size+src.length*te.size<=vs.size:=by
     rw[g3,<- Nat.add_mul];exact mulR _ pC
    have XH: ∃w',(storeCells ⟨(ι β).b,ao+n*te.size,none⟩ cs.toList).run P w=Result.ok () w' /\(w'.heap.size=w.heap.size/\w'.os=w.os/\w'.output=w.output)/\(∀ b',b' ≠(ι β).b->w'.heap[b']? =w.heap[b']?)/\
      ∃dH:Array Value,w'.heap[(ι β).b]? =some (.cells dH elem fz)/\dH.size=vs.size/\ ∀k,dH[k]? =if n*te.size<=k/\k<n*te.size+cs.size then cs[k-n*te.size]? else vs[k]? :=by
     by_cases hs:src=[]
     ·have AZ:cs.size=0:=by rw[f2,hs];simp
      have lY:cs.toList=[]:=by simpa using AZ
      refine⟨w,by rw[lY];rfl,⟨rfl,rfl,rfl⟩,fun _ _=>rfl,vs,g1,rfl,fun k=>?_⟩;rw[if_neg (by omega)]
     have:=SO hs;subst this;obtain⟨w',q1,q2,q3,dH,q4,q5,q6⟩:=wQ (P:=P) (ι β).b (n*te.size) elem fz cs.toList 0 w vs g1 g2 (by simp[f2];omega) Z9;refine⟨w',by simpa using q1,q2,q3,dH,q4,q5,fun k=>?_⟩;rw[q6 k];simp
    obtain⟨w',q1,q2,q3,dH,q4,q5,q6⟩:=XH;have JN:=run_append_fits (w' :=w') Ql xr rE Qm oi tt (some ⟨(ι β).b,ao,none⟩) n ((ι β).cap-0) src.length vy l1 (by omega) cs f1
     (fun a ha=>by cases ha;rw[add_plain];exact q1) (fun h=>by cases h)
    refine⟨_,w',JN,jj ι β (ι β), ?_⟩;have key:=qW.put (Qh:=TM hb rfl) hi (w' :=w') β (.row false te.size (es.take n++src++es.drop (n+src.length))) (ι β)
     (fun x hx=>by
      rw[hb]at hx
      cases hx
      simp only[xi,qD.sh]
      exact⟨by omega,fun _=>⟨by simp,fun _=>⟨by simp,Pl.ou _⟩⟩⟩)
     ⟨by omega,q2.2⟩ (fun b' _ jv=>q3 b' (fun e=>jv _ hb rfl e.symm)) (fun _=> .inr ⟨_,hb,rfl,rfl⟩) (fun bM=>by
      have hw: ∀b,Im b->w'.heap[b]? =w.heap[b]? :=fun b hb=>bM.Qo hi b hb
      have mr: ∀(i:Nat) e0,(es.take n++src++es.drop (n+src.length))[i]? =some e0->
        (n<=i/\i<n+src.length/\src[i-n]? =some e0)\/(¬ (n<=i/\i<n+src.length)/\es[i]? =some e0):=by
       intro i e0 h
       by_cases hn:n+src.length<=es.length
       ·rw[kp es src n i hn]at h
        split at h
        ·rename_i hc
         exact .inl ⟨hc.1,hc.2,h⟩
        rename_i hc
        exact .inr ⟨hc,h⟩
       rw[List.drop_eq_nil_of_le (by omega),List.append_nil,List.getElem?_append]at h
       have htl:(es.take n).length=n:=by simp;omega
       rw[htl]at h
       split at h
       ·rename_i hc
        rw[List.getElem?_take_of_lt hc]at h
        exact .inr ⟨by omega,h⟩
       rename_i hc
       have:=(qG h).1
       exact .inl ⟨by omega,by omega,h⟩
      refine⟨dH,elem,fz,by simpa using q4,by rw[q5];exact g2,by simp[q5,g3],bU,by simp only[jT];omega, ?_, ?_, ?_⟩
      ·intro e0 KI
       obtain⟨i,vq⟩:=jz KI
       rcases mr i e0 vq with ⟨_,_,h⟩|⟨_,h⟩
       ·exact f3.1 e0 (qX h)
       exact g6 e0 (qX h)
      ·intro i e0 j p vq hj
       rcases mr i e0 vq with ⟨_,_,h⟩|⟨_,h⟩
       ·exact f3.2.1 _ e0 j p h hj
       exact g7 _ e0 j p h hj
      intro i e0 j p vq hj
      have M1:=(qG hj).1
      rw[q6]
      rcases mr i e0 vq with ⟨k1,k2,h⟩|⟨k1,h⟩
      ·obtain⟨v0,w1,w2⟩:=f3.2.2 _ e0 j p h hj
       have Yt:=f3.1 e0 (qX h)
       have e1:i*te.size+j-n*te.size=(i-n)*te.size+j:=by
        have:i=n+(i-n):=by omega
        conv=>lhs;rw[this,Nat.add_mul]
        omega
       have e2:n*te.size<=i*te.size:=mulR _ k1
       have e3:(i+1)*te.size<=(n+src.length)*te.size:=mulR _ k2
       rw[Nat.succ_mul,Nat.add_mul]at e3
       rw[if_pos ⟨by omega,by rw[f2];omega⟩,e1]
       exact⟨v0,w1,w2.mono bM.im hw⟩
      obtain⟨v0,w1,w2⟩:=g8 _ e0 j p h hj
      have Yt:=g6 e0 (qX h)
      have Za: ¬(n*te.size<=i*te.size+j/\i*te.size+j<n*te.size+cs.size):=by
       rw[f2]
       by_cases xB:i<n
       ·have:(i+1)*te.size<=n*te.size:=mulR _ xB
        rw[Nat.succ_mul]at this
        omega
       have:(n+src.length)*te.size<=i*te.size:=mulR _ (by omega)
       rw[Nat.add_mul]at this
       omega
      rw[if_neg Za]
      exact⟨v0,w1,w2.mono bM.im hw⟩)
    refine⟨key.1,key.2, ?_,xJ _,ki xt (xJ _) (xt β _ hb)⟩;have hg:(qS [(β,qD.row false te.size (es.take n++src++es.drop (n+src.length)))] H).get β=some (.row false te.size (es.take n++src++es.drop (n+src.length))):=by simp[qS,qn.qZ]
    refine .row β _ 0 _ _ _ rfl hg (fun _=>⟨_,_,_,rfl⟩) (fun _ _ _ e=>by cases e;exact xJ _) fun _ _ _ e _=>?_;cases e;refine⟨by omega, ?_⟩;simp only[w9,if_false];refine⟨⟨(ι β).b,ao,none⟩,by simp,rfl,by simp,fun hc=>?_⟩;simp only[jT]at hc;have:=eY hc;simpa using this
   
   have cD:es.drop (n+src.length)=[]:=List.drop_eq_nil_of_le (by omega);have hw:(kQ w).heap=w.heap:=rfl;have En:vT (.row β zF 0 n) H=some (te.size,es.take n):=by
    simp[vT,hb,xU]
   have C7:RA w H ι Im (.row β zF 0 n) (.slice (some ⟨(ι β).b,ao,none⟩) n ((ι β).cap-0)):=
    .row β zF 0 n _ _ rfl hb hk hv hh
   have htl:(es.take n).length=n:=by simp;omega
   obtain⟨Wh,k1,k2,k3⟩:=(mT (P:=P) (hi.yu hw ⟨rfl,rfl⟩) (C7.yu hw ⟨rfl,rfl⟩ hi) En).2 te.size (.inl rfl);obtain⟨new,m1,m2,m3⟩:=(mT (P:=P) (hi.yu hw ⟨rfl,rfl⟩) (hy.yu hw ⟨rfl,rfl⟩ hi) nP).2 te.size bO;rw[htl]at k1 k2;obtain⟨nc,rest,r1,r2,r3⟩:=hZ (w:=w) Ql xr rE Qm oi tt (some ⟨(ι β).b,ao,none⟩) n ((ι β).cap-0) src.length vy l1 (by omega) wV Wh new k1 m1;have cE:=xD.append (rest:=rest) k3 m3 (by rw[k2,htl]);have El:=cE.mono (w' :=w) (jA:=Im) (fun _ h=>h) (fun b _=>by rw[hw]);have hes2:es.take n++src++es.drop (n+src.length)=es.take n++src:=by rw[cD];simp
   rw[hes2]at hes' |-;refine⟨_,_,r3,jj ι β ⟨w.heap.size,nc,[]⟩, ?_⟩;have Ea:(es.take n++src).length=n+src.length:=by simp;omega
   have key:=qW.put (Qh:=TM hb rfl) hi (w' :={ kQ w with heap:=w.heap.push (.cells (Wh++new++rest) e) }) β (.row false te.size (es.take n++src)) ⟨w.heap.size,nc,[]⟩
    (fun x hx=>by
     rw[hb]at hx
     cases hx
     simp only[xi,qD.sh]
     exact⟨by omega,fun h=>by omega⟩)
    ⟨by simp,rfl,rfl⟩ (fun b' xQ _=>by simp[Array.getElem?_push,Nat.ne_of_lt xQ]) (fun _=> .inl (xJ _)) (fun he=>by
     have hk: ∀b,Im b->_:=fun b hb=>he.Qo hi b hb
     obtain⟨p1,p2,p3⟩:=El.mono he.im hk
     refine⟨Wh++new++rest,e,(0,0),by simp,xE _, ?_,bU,by simp only[jT];omega,p1,p2,p3⟩
     simp only[jT,Array.size_append,k2,m2,r2,<- Nat.add_mul]
     congr 1
     omega)
   refine⟨key.1,key.2, ?_,xJ _,ki xt (xJ _) (xt β _ hb)⟩;have hg:(qS [(β,qD.row false te.size (es.take n++src))] H).get β=some (.row false te.size (es.take n++src)):=by simp[qS,qn.qZ]
   refine .row β _ 0 _ _ _ rfl hg (fun _=>⟨_,_,_,rfl⟩) (fun _ _ _ e=>by cases e;exact xJ _) fun _ _ _ e _=>?_;cases e;refine⟨by omega, ?_⟩;simp only[w9,if_false];exact⟨⟨w.heap.size,0,none⟩,by simp,rfl,by simp,fun _=>by simp⟩
  cases hr
 cases hr
end
end Go.Gm
