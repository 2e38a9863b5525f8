/-
  The machine, part a.
-/
import Derived.WalkKit
import GoSem.Claims
set_option linter.unusedSimpArgs false
set_option linter.unusedVariables false
namespace Go.Gm
open Go
section
variable {α β:Type}
theorem qF{l:List α}{i:Nat}{a:α}(h:l[i]? =some a): ∃h:i<l.length,l[i]=a:=List.getElem?_eq_some_iff.1 h
theorem qX{l:List α}{i:Nat}{a:α}(h:l[i]? =some a):a∈l:=List.mem_of_getElem? h
theorem xJ(n:Nat):n<=n:=Nat.le_refl n
theorem mulR{m n:Nat}(k:Nat)(h:m<=n):m*k<=n*k:=Nat.mul_le_mul_right k h
theorem yi{f:α->β}{x:Option α}{b:β}:x.map f=some b↔ ∃a,x=some a/\f a=b:=Option.map_eq_some_iff
theorem z7(a:α)(f:α->Option β):(some a).bind f=f a:=by simp
theorem xe{α β:Type}: @bind Option _ α β=Option.bind:=by rfl
theorem kU{l:List α}{i:Nat}(h:i<l.length):l[i]? =some l[i]:=List.getElem?_eq_getElem h
theorem jz{a:α}{l:List α}(h:a∈l): ∃i:Nat,l[i]? =some a:=List.getElem?_of_mem h
theorem kX{a b:α}:(some a=some b)=(a=b):=by simp
theorem w9:(false=true)=False:=by simp
theorem zB(a b:Bool):((a&&b)=true)=(a=true/\b=true):=by simp
theorem gm(a:α)(w:World)(f:α->World->Result β):(Result.ok a w).andThen f=f a w:=rfl
theorem ji(P:Program)(w:World)(x:Sem α)(f:α->Sem β):Sem.run P (x>>=f) w=(Sem.run P x w).andThen fun a w' =>Sem.run P (f a) w' :=Sem.run_bind P w x f
end
inductive PV where
 |bool (b:Bool)
 |int (k:IntKind) (n:Int)
 |str (s:List UInt8)
 |agg (c:List PV)
 |sl (qq:Bool) (sz:Nat) (es:List (List PV))
 |jk
 |rX
 |gG
 |dT
 |fn (f:FuncId)
 |rp (c:List PV)
 deriving Inhabited
def PV.Kk:PV->Bool
 | .bool _| .int _ _| .str _| .jk| .rX| .gG| .dT| .fn _=>true
 |_=>false
inductive AV where
 |pv (p:PV)
 |ptr (β:Nat) (o:Nat)
 |yT (β zF i o:Nat)
 |mR (c:List PV) (o:Nat)
 |row (β zF off n:Nat)
 |aT
 |map (β:Nat)
 |lp (f:FuncId) (first cap:List AV)
 |agg (c:List AV)
 |xS (l:List AV)
 |undef
 deriving Inhabited
inductive qC where
 |box (c:List AV)
 |row (qq:Bool) (sz:Nat) (es:List (List PV))
 |map (es:List (PV×PV×Nat)) (zI:Nat)
 |yq (sz:Nat) (es:List (List AV))
 |jI (qq:Bool) (fw:List Nat) (es:List PV) (i5:Option (Nat×Nat×Nat))
 |xf
 deriving Inhabited
def qC.sh:qC->Option (Bool×Nat×Nat)
 | .row qq sz es=>some (qq,sz,es.length)
 | .yq sz es=>some (false,sz,es.length)
 | .jI qq _ es _=>some (qq,1,es.length)
 |_=>none
def qC.slv:qC->Option (Bool×Nat×Nat)
 | .row qq sz es=>some (qq,sz,es.length)
 | .jI qq _ es none=>some (qq,1,es.length)
 |_=>none
def zC{α:Type}(k:Nat):List α->Nat
 |[]=>0
 |_::_=>k
def Cf(qq:Bool)(sz:Nat)(es:List (List PV)):PV:= .sl qq (zC sz es) es
abbrev vF:=List (Nat×AV)
abbrev qn:=List (Nat×qC)
def vF.get:vF->Nat->AV
 |[],_=> .undef
 |(i,v)::r,n=>if i=n then v else vF.get r n
def qn.get:qn->Nat->Option qC
 |[],_=>none
 |(i,v)::r,n=>if i=n then some v else qn.get r n
def qn.put:qn->Nat->qC->qn
 |[],n,x=>[(n,x)]
 |(i,v)::r,n,x=>if i=n then(i,x)::r else(i,v)::qn.put r n x
structure St where
 env:vF
 heap:qn
 nx:Nat
 deriving Inhabited
inductive TD where
 |struct (fields:List (Nat×Nat×TypeId))
 |array (len:Nat) (elem:TypeId)
 |slice (elem:TypeId)
 |map (key elem:TypeId)
 |bool
 |int (k:IntKind)
 |string
 |ptr
 |func
 |other
 deriving Inhabited
structure TI where
 size:Nat
 bytes:Nat
 td:TD
 zero:List PV
 eq:Bool
 pe:Option TypeId:=none
 deriving Inhabited
def TI.isAgg(t:TI):Bool:=match t.td with| .struct _| .array _ _=>true|_=>false
def Iy:Value->Option PV
 | .bool b=>some (.bool b)
 | .int k n=>some (.int k n)
 | .string s=>some (.str s.data.toList)
 | .pointer none=>some .jk
 | .slice none 0 0=>some (.sl true 0 [])
 | .map none=>some .gG
 | .nilFunc=>some .rX
 | .nilIface=>some .dT
 | .func (.func f) ⟨[]⟩ ⟨[]⟩=>some (.fn f)
 |_=>none
def aa:List Value->Option (List PV)
 |[]=>some []
 |v::r=>match Iy v,aa r with
  |some p,some l=>some (p::l)
  |_,_=>none
def avOf(v:Value):AV:=
 match v with
 | .agg ⟨cs⟩=>match aa cs with|some l=> .pv (.agg l)|none=> .undef
 | .tuple ⟨[]⟩=> .xS []
 |v=>match Iy v with|some p=> .pv p|none=> .undef
structure nU where
 YD:List Nat:=[]
 out:List Nat:=[]
 jQ:List Nat:=[]
 zL:List (Nat×Nat):=[]
 freeze:List Nat:=[]
 own:Nat:=0
 deriving Inhabited
def nU.off(sp:nU):Nat:=if sp.own=1000 then 0 else sp.own
structure FI where
 nt:Nat
 results:List ResultVar
 body:Code
 deriving Inhabited
inductive RW where
 |focus (t:Nat) (is:List Nat)
 |pack (t:Nat)
 |cut (t:Nat)
 |prom (t:Nat) (fw:List Nat)
 |HV (t:Nat)
 deriving Inhabited
structure GP where
 ti:TypeId->Option TI
 fn:FuncId->Option FI
 spec:FuncId->Nat->nU
 owned:FuncId->Bool
 tA:FuncId->Bool
 pre:FuncId->Nat->List Nat
 HV:TypeId->Bool
 DV:TypeId->Bool
 cmd:FuncId->Nat->List RW
def ev(E:vF):Operand->AV
 | .tmp t=>E.get t
 | .const v=>avOf v
 | .global _=> .undef
 | .func f=> .pv (.fn f)
def ip:List AV->Option (List PV)
 |[]=>some []
 | .pv p::r=>match ip r with|some l=>some (p::l)|none=>none
 |_::_=>none
def ZQ(c:List AV):AV:=match ip c with|some l=> .pv (.agg l)|none=> .agg c
def AV.cells:AV->List AV
 | .pv (.agg c)=>c.map .pv
 | .agg c=>c
 |v=>[v]
def PV.cells:PV->List PV
 | .agg c=>c
 |p=>[p]
def AV.Bs:AV->Bool
 | .undef| .xS _=>false
 |_=>true
def AV.slc:AV->Bool
 | .row _ _ _ _| .aT| .pv (.sl _ _ _)=>true
 |_=>false
def Kd:AV->Option PV
 | .pv p=>some p
 | .aT=>some (.sl false 0 [])
 |_=>none
def wW:AV->Option Nat
 | .pv (.int _ n)=>if 0<=n then some n.toNat else none
 |_=>none
abbrev bY:=AV×List (Nat×qC)×Nat
def DU(ti:TI)(c:List AV):Option AV:=
 if ti.isAgg then(if ti.size<=c.length then some (ZQ (c.take ti.size))else none)
 else match c with|x::_=>some x|[]=>none
def ldP(ti:TI)(c:List PV):Option AV:=
 if ti.isAgg then(if ti.size<=c.length then some (.pv (.agg (c.take ti.size)))else none)
 else match c with|x::_=>some (.pv x)|[]=>none
def oO(ti:TI)(a:AV)(H:qn):Option AV:=
 match a with
 | .ptr β o=>match H.get β with
  |some (.box c)=>DU ti (c.drop o)
  |_=>none
 | .yT β zF i o=>match H.get β with
  |some (.row false _ es)=>if zF=es.length then match es[i]? with|some e=>ldP ti (e.drop o)|none=>none else none
  |some (.yq _ es)=>if zF=es.length then match es[i]? with|some e=>DU ti (e.drop o)|none=>none else none
  |some (.jI false _ es (some (j,γ,fv)))=>if zF=es.length/\o=0/\j=i then DU ti [.row γ fv 0 fv]else none
  |_=>none
 | .mR c o=>ldP ti (c.drop o)
 | .pv (.rp c)=>ldP ti c
 |_=>none
def lL(sz β zF i o size:Nat)(vs:List AV)(es:List (List AV)):Option (List (Nat×qC)):=none
def Yi:Option (Nat×Nat×Nat)->Nat->Bool
 |some x,i=>decide (x.1=i)
 |none,_=>true
def Zp(β zF i o size:Nat)(v:AV)(ds:List Nat)(es:List PV)(i5:Option (Nat×Nat×Nat)):Option (List (Nat×qC)):=
 match v with
 | .row γ fv 0 n=>if zF=es.length/\i<es.length/\o=0/\size=1/\n=fv/\Yi i5 i=true then some [(β,.jI false ds es (some (i,γ,fv)))]else none
 |_=>none
def e8(ti:TI)(a v:AV)(H:qn):Option (List (Nat×qC)):=
 if v.Bs=true/\v.cells.length=ti.size then
  match a with
  | .ptr β o=>match H.get β with
   |some (.box c)=>if o+ti.size<=c.length then some [(β,.box (c.take o++v.cells++c.drop (o+ti.size)))]else none
   |_=>none
  | .yT β zF i o=>match ip v.cells with
   |some ps=>match H.get β with
    |some (.row false sz es)=>
     if zF=es.length then match es[i]? with
      |some e=>if o+ti.size<=e.length then some [(β,.row false sz (es.set i (e.take o++ps++e.drop (o+ti.size))))]else none
      |none=>none
     else none
    |some (.yq sz es)=>lL sz β zF i o ti.size v.cells es
    |_=>none
   |none=>match H.get β with
    |some (.yq sz es)=>lL sz β zF i o ti.size v.cells es
    |some (.jI false ds es i5)=>Zp β zF i o ti.size v ds es i5
    |_=>none
  |_=>none
 else none
def iD(z6:Nat->Option (Nat×Nat))(ρ:Operand->AV):List (Nat×Operand)->List AV->Option (List AV)
 |[],c=>some c
 |(i,x)::r,c=>
  match z6 i with
  |some (off,size)=>
   if(ρ x).Bs=true/\(ρ x).cells.length=size/\off+size<=c.length then
    iD z6 ρ r (c.take off++(ρ x).cells++c.drop (off+size))
   else none
  |none=>none
def iB(fs:List (Nat×Nat×TypeId))(i:Nat):Option (Nat×Nat):=match fs[i]? with|some (o,s,_)=>some (o,s)|none=>none
def XZ(ti:TI)(aR:TypeId->Option TI)(ρ:Operand->AV)(parts:List (Nat×Operand)):Option AV:=
 match ti.td with
 | .struct fs=>match iD (iB fs) ρ parts (ti.zero.map .pv)with|some c=>some (ZQ c)|none=>none
 | .array _ e=>match aR e with
  |some te=>match iD (fun i=>some (i*te.size,te.size)) ρ parts (ti.zero.map .pv)with|some c=>some (ZQ c)|none=>none
  |none=>none
 |_=>none
def pK(size:Nat)(ρ:Operand->AV):List (Nat×Operand)->List (List PV)->Option (List (List PV))
 |[],es=>some es
 |(i,x)::r,es=>
  match Kd (ρ x)with
  |some p=>if p.cells.length=size/\i<es.length then pK size ρ r (es.set i p.cells)else none
  |none=>none
def mo(size:Nat)(ρ:Operand->AV):List (Nat×Operand)->List (List AV)->Option (List (List AV))
 |[],es=>some es
 |(i,x)::r,es=>if(ρ x).Bs=true/\(ρ x).cells.length=size/\i<es.length then mo size ρ r (es.set i (ρ x).cells)else none
def vT(v:AV)(H:qn):Option (Nat×List (List PV)):=
 match v with
 | .pv (.sl _ sz es)=>some (sz,es)
 | .aT=>some (0,[])
 | .row β zF off n=>match H.get β with
  |some (.row _ sz es)=>if zF=es.length then some (sz,(es.drop off).take n)else none
  |_=>none
 | .pv (.str s)=>some (1,s.map fun b=>[.int .u8 b.toNat])
 |_=>none
def qg(zm bytes:Nat):Bool:=decide (zm*bytes<=2^46)&&decide (zm<=2^46)&&decide (bytes<=2^20)
def jH(te:TI)(s:AV)(src:List (List PV))(γ nx cL:Nat):Option bY:=
 match src with
 |[]=>some (s,[],nx)
 |_::_=>if qg src.length te.bytes=true then some (.row γ src.length 0 src.length,[(γ,.row false te.size src)],cL)else none
def dE(v:AV)(H:qn):Option (Nat×List (List AV)):=
 match v with
 | .row β zF off n=>match H.get β with
  |some (.yq sz es)=>if zF=es.length then some (sz,(es.drop off).take n)else none
  |_=>none
 |_=>none
def ej(te:TI)(src:List (List AV))(γ cL:Nat):Option bY:=
 match src with
 |[]=>none
 |_::_=>if qg src.length te.bytes=true then some (.row γ src.length 0 src.length,[(γ,.yq te.size src)],cL)else none
def bx(te:TI)(s x:AV)(H:qn)(nx:Nat):Option bY:=
 match dE x H with
 |none=>none
 |some (mT,src)=>
  if mT=te.size/\0<te.size then
   match s with
   | .pv (.sl true _ _)=>ej te src nx (nx+1)
   | .row β zF off n=>match H.get β with
    |some (.row true _ es)=>if zF=es.length/\off=0/\n=0 then ej te src β nx else none
    |some (.yq sz es)=>
     if zF=es.length/\sz=te.size/\off=0/\n=es.length/\qg (n+src.length) te.bytes=true then
      some (.row β (es++src).length 0 (es++src).length,[(β,.yq te.size (es++src))],nx)
     else none
    |_=>none
   |_=>none
  else none
def ua(te:TI)(s x:AV)(H:qn)(nx:Nat):Option bY:=
 match vT x H with
 |none=>bx te s x H nx
 |some (mT,src)=>
  if(mT=te.size\/src=[])/\0<te.size then
   match s with
   | .pv (.sl true _ _)=>jH te s src nx nx (nx+1)
   | .aT=>jH te s src nx nx (nx+1)
   | .row β zF off n=>match H.get β with
    |some (.row true _ es)=>if zF=es.length/\off=0/\n=0 then jH te s src β nx nx else none
    |some (.row false sz es)=>
     if zF=es.length/\sz=te.size/\off=0/\qg (n+src.length) te.bytes=true then
      if n=es.length then some (.row β (es++src).length 0 (es++src).length,[(β,.row false te.size (es++src))],nx)
      else some (.row β (es.take n++src++es.drop (n+src.length)).length 0 (n+src.length),[(β,.row false te.size (es.take n++src++es.drop (n+src.length)))],nx)
     else none
    |_=>none
   |_=>none
  else none
def bA(te:TI)(s x:AV)(H:qn)(nx:Nat):Option bY:=
 match dE x H with
 |some (mT,[[.row γ fv 0 fn]])=>match s with
  | .row β zF off n=>match H.get β with
   |some (.jI qq ds es none)=>if zF=es.length/\off=0/\n=es.length/\mT=te.size/\te.size=1/\fn=fv/\qg (n+1) te.bytes=true then
     some (.row β (es.length+1) 0 (es.length+1),[(β,.jI false ds (es++[.sl true 0 []]) (some (es.length,γ,fv)))],nx)else none
   |_=>none
  |_=>none
 |_=>none
def nK:List (List PV)->Option (List UInt8)
 |[]=>some []
 |[.int .u8 n]::r=>match nK r with|some l=>some (UInt8.ofNat n.toNat::l)|none=>none
 |_=>none
def uU(e:TypeId)(te:TI)(s x:AV)(H:qn)(nx:Nat):Option bY:=none
def mJ(x:AV)(H:qn)(nx:Nat):Option bY:=none
def uw(el:TypeId)(p x:AV)(H:qn)(nx:Nat):Option bY:=none
def Q2(te:TI)(d x:AV)(H:qn)(nx:Nat):Option bY:=
 match vT x H with
 |none=>none
 |some (mT,src)=>match d with
  | .row β zF off n=>match H.get β with
   |some (.row false sz es)=>
    if zF=es.length/\sz=te.size/\(mT=te.size\/src=[])then
     some (.pv (.int .i64 ((src.take n).length:Nat)),[(β,.row false te.size (es.take off++src.take n++es.drop (off+(src.take n).length)))],nx)
    else none
   |_=>none
  |_=>none
def mI(td:TD)(aR:TypeId->Option TI)(x i:AV)(H:qn):Option AV:=
 match wW i with
 |none=>none
 |some k=>
  match td with
  | .slice e=>match aR e with
   |none=>none
   |some te=>match x with
    | .pv (.sl _ sz es)=>if sz=te.size then match es[k]? with|some c=>some (.mR c 0)|none=>none else none
    | .row β zF off n=>match H.get β with
     |some (.row false sz es)=>if zF=es.length/\sz=te.size/\k<n then some (.yT β zF (off+k) 0)else none
     |some (.yq sz es)=>if zF=es.length/\sz=te.size/\k<n then some (.yT β zF (off+k) 0)else none
     |some (.jI false _ es _)=>if zF=es.length/\te.size=1/\k<n then some (.yT β zF (off+k) 0)else none
     |_=>none
    |_=>none
  | .array len e=>match aR e with
   |none=>none
   |some te=>if k<len then match x with
    | .ptr β o=>some (.ptr β (o+k*te.size))
    | .yT β zF j o=>some (.yT β zF j (o+k*te.size))
    | .mR c o=>some (.mR c (o+k*te.size))
    |_=>none
    else none
  |_=>none
def aZ(td:TD)(x:AV)(f:Nat):Option AV:=
 match td with
 | .struct fs=>match fs[f]? with
  |some (o',s,_)=>if 0<s then match x with
   | .ptr β o=>some (.ptr β (o+o'))
   | .yT β zF j o=>some (.yT β zF j (o+o'))
   | .mR c o=>some (.mR c (o+o'))
   | .pv (.rp c)=>some (.mR c o')
   |_=>none
   else none
  |none=>none
 |_=>none
def Hp(ti:TI)(x:AV)(off:Nat):Option AV:=
 match x with
 | .pv (.agg c)=>ldP ti (c.drop off)
 | .agg c=>DU ti (c.drop off)
 |_=>none
def jU(ρ:Operand->AV)(d:Nat):Option Operand->Option Nat
 |none=>some d
 |some x=>wW (ρ x)
def ft(td:TD)(aR:TypeId->Option TI)(ρ:Operand->AV)(x:AV)(lo hi mx:Option Operand)(H:qn):Option AV:=
 if mx.isSome=true/\hi.isNone=true then none else
 match td with
 | .string=>match x with
  | .pv (.str s)=>
   if mx.isSome then none else
   match jU ρ 0 lo,jU ρ s.length hi with
   |some l,some h=>if l<=h/\h<=s.length then some (.pv (.str ((s.take h).drop l)))else none
   |_,_=>none
  |_=>none
 | .slice e=>match aR e with
  |none=>none
  |some te=>match x with
   | .pv (.sl qq sz es)=>
    match jU ρ 0 lo,jU ρ es.length hi,jU ρ es.length mx with
    |some l,some h,some m=>
     if l<=h/\h<=m/\m<=es.length/\(sz=te.size\/es=[])then
      if mx.isSome=true/\l=m/\qq=false then some .aT else some (.pv (Cf qq sz ((es.take h).drop l)))
     else none
    |_,_,_=>none
   | .row β zF off n=>
    match H.get β with
    |some b=>match b.slv with
     |some (qq,sz,k)=>
      match jU ρ 0 lo,jU ρ n hi,jU ρ n mx with
      |some l,some h,some m=>
       if zF=k/\l<=h/\h<=m/\m<=n/\(sz=te.size\/qq=true)then
        if mx.isSome=true then(if qq=true then some (.row β zF off n)else if l=m then some .aT else none)
        else some (.row β zF (off+l) (h-l))
       else none
      |_,_,_=>none
     |none=>none
    |none=>none
   | .aT=>
    match jU ρ 0 lo,jU ρ 0 hi,jU ρ 0 mx with
    |some 0,some 0,some 0=>some .aT
    |_,_,_=>none
   |_=>none
 |_=>none
def jP:List UInt8->List UInt8->Bool
 |_,[]=>false
 |[],_::_=>true
 |a::x,b::y=>a<b || (a==b&&jP x y)
def Yv(op:BinOp)(k:IntKind)(a b:Int):Option PV:=
 match op with
 | .add=>some (.int k (k.wrap (a+b)))
 | .sub=>some (.int k (k.wrap (a-b)))
 | .mul=>some (.int k (k.wrap (a*b)))
 | .quo=>if b=0 then none else some (.int k (k.wrap (a.tdiv b)))
 | .rem=>if b=0 then none else some (.int k (a.tmod b))
 | .eql=>some (.bool (a==b))
 | .neq=>some (.bool (a != b))
 | .lss=>some (.bool (decide (a<b)))
 | .leq=>some (.bool (decide (a<=b)))
 | .gtr=>some (.bool (decide (a>b)))
 | .geq=>some (.bool (decide (a>=b)))
 | .and=>some (.int k (k.wrap (BitVec.ofInt k.bits a &&& BitVec.ofInt k.bits b).toNat))
 | .or=>some (.int k (k.wrap (BitVec.ofInt k.bits a ||| BitVec.ofInt k.bits b).toNat))
 | .xor=>some (.int k (k.wrap (BitVec.ofInt k.bits a ^^^ BitVec.ofInt k.bits b).toNat))
 | .andNot=>some (.int k (k.wrap (BitVec.ofInt k.bits a &&& ~~~BitVec.ofInt k.bits b).toNat))
 |_=>none
def Ul(op:BinOp)(a b:List UInt8):Option PV:=
 match op with
 | .add=>if a.length+b.length<=2^62 then some (.str (a++b))else none
 | .eql=>some (.bool (a==b))
 | .neq=>some (.bool (!(a==b)))
 | .lss=>some (.bool (jP a b))
 | .leq=>some (.bool (jP a b || a==b))
 | .gtr=>some (.bool (!(jP a b || a==b)))
 | .geq=>some (.bool (!jP a b))
 |_=>none
def zj:List PV->List PV->Option Bool
 |[],[]=>some true
 | .int k a::r,.int k' b::r' =>if k=k' then match zj r r' with|some t=>some (a==b&&t)|none=>none else none
 | .str a::r,.str b::r' =>match zj r r' with|some t=>some (a==b&&t)|none=>none
 | .bool a::r,.bool b::r' =>match zj r r' with|some t=>some (a==b&&t)|none=>none
 |_,_=>none
def sD(td:TD)(v:AV)(H:qn):Option Bool:=
 match td with
 | .ptr=>match v with
  | .pv .jk=>some true
  | .ptr _ _| .mR _ _| .yT _ _ _ _| .pv (.rp _)=>some false
  |_=>none
 | .slice _=>match v with
  | .pv (.sl b _ _)=>some b
  | .aT=>some false
  | .row β zF _ _=>match H.get β with
   |some (.row b _ es)=>if zF=es.length then some b else none
   |_=>none
  |_=>none
 | .map _ _=>match v with
  | .pv .gG=>some true
  | .map _=>some false
  |_=>none
 | .func=>match v with
  | .pv .rX=>some true
  | .pv (.fn _)| .lp _ _ _=>some false
  |_=>none
 |_=>none
def JS(td:TD)(v:AV):Bool:=
 match td,v with
 | .ptr,.pv .jk=>true
 | .slice _,.pv (.sl true _ _)=>true
 | .map _ _,.pv .gG=>true
 | .func,.pv .rX=>true
 |_,_=>false
def xv:TD->PV->Bool
 | .int _,.int _ _| .string,.str _| .bool,.bool _=>true
 |_,_=>false
def eh(aR:TypeId->Option TI):List (Nat×Nat×TypeId)->List PV->Bool
 |[],[]=>true
 |(_,_,t)::r,p::l=>(match aR t with|some ti=>xv ti.td p|none=>false)&&eh aR r l
 |_,_=>false
def Jw(aR:TypeId->Option TI)(ti:TI)(a:List PV):Bool:=
 match ti.td with
 | .struct fs=>if ti.size<=a.length then ti.eq&&eh aR fs (a.take ti.size)else false
 |td=>xv td (a.headD .jk)
def iF(aR:TypeId->Option TI):List (Nat×Nat×TypeId)->List PV->Bool
 |[],[]=>true
 |[],_::_=>false
 |(_,_,t)::r,a=>match aR t with
  |some ti=>Jw aR ti a&&iF aR r (a.drop ti.size)
  |none=>false
def Ln(aR:TypeId->Option TI)(ti:TI)(x y:AV)(H:qn):Option Bool:=
 match ti.td with
 | .bool=>match x,y with
  | .pv (.bool a),.pv (.bool b)=>some (a==b)
  |_,_=>none
 | .struct fs=>match x,y with
  | .pv (.agg a),.pv (.agg b)=>if ti.eq=true/\iF aR fs a=true then zj a b else none
  |_,_=>none
 |td=>if JS td y=true then sD td x H else if JS td x=true then sD td y H else none
def Nf(aR:TypeId->Option TI)(op:BinOp)(ti:TI)(x y:AV)(H:qn):Option PV:=
 match op with
 | .shl=>match x,y with
  | .pv (.int k a),.pv (.int _ b)=>if 0<=b then some (.int k (k.wrap (a*2^(min b.toNat k.bits))))else none
  |_,_=>none
 | .shr=>match x,y with
  | .pv (.int k a),.pv (.int _ b)=>if 0<=b then some (.int k (a.fdiv (2^(min b.toNat k.bits))))else none
  |_,_=>none
 |op=>match x,y with
  | .pv (.int k a),.pv (.int k' b)=>if k=k' then Yv op k a b else none
  | .pv (.str a),.pv (.str b)=>Ul op a b
  |x,y=>match op with
   | .eql=>match Ln aR ti x y H with|some t=>some (.bool t)|none=>none
   | .neq=>match Ln aR ti x y H with|some t=>some (.bool (!t))|none=>none
   |_=>none
def Qn:TD->AV->Bool
 | .string,.pv (.str _)=>true
 | .slice _,.pv (.sl _ _ _)=>true
 | .slice _,.row _ _ _ _=>true
 | .slice _,.aT=>true
 | .map _ _,.pv .gG=>true
 | .map _ _,.map _=>true
 |_,_=>false
def aUn(op:UnOp)(x:AV):Option PV:=
 match op,x with
 | .not,.pv (.bool b)=>some (.bool !b)
 | .neg,.pv (.int k n)=>some (.int k (k.wrap (0-n)))
 |_,_=>none
def pH(src dst:TD)(dte:TypeId->Option TI)(x:AV)(H:qn)(nx:Nat):Option bY:=
 match src,dst,x with
 |_,.int k,.pv (.int _ n)=>some (.pv (.int k (k.wrap n)),[],nx)
 |_,.string,.pv (.str s)=>some (.pv (.str s),[],nx)
 | .slice e,.string,x=>match dte e with
  |some te=>match te.td with
   | .int .u8=>match vT x H with
    |some (mT,es)=>if mT=1\/es=[]then match nK es with|some l=>some (.pv (.str l),[],nx)|none=>none else none
    |none=>none
   |_=>none
  |none=>none
 |_,.slice e,.pv (.str s)=>match dte e with
  |some te=>match te.td with
   | .int .u8=>some (.row nx s.length 0 s.length,[(nx,.row false 1 (s.map fun b=>[.int .u8 b.toNat]))],nx+1)
   |_=>none
  |none=>none
 |_,_,_=>none
def Tu:PV->PV->Option Bool
 | .int k a,.int k' b=>if k=k' then some (a==b)else none
 | .str a,.str b=>some (a==b)
 | .bool a,.bool b=>some (a==b)
 |_,_=>none
def findKey(k:PV):List (PV×PV×Nat)->Nat->Option (Option (Nat×PV×Nat))
 |[],_=>some none
 |(x,v,born)::r,i=>match Tu k x with
  |some true=>some (some (i,v,born))
  |some false=>findKey k r (i+1)
  |none=>none
def Ke(t:TI):PV:=if t.isAgg then .agg t.zero else t.zero.headD .jk
def J5(m:AV)(k:PV)(H:qn):Option (Option (Nat×PV×Nat)):=
 match m with
 | .pv .gG=>some none
 | .map β=>match H.get β with
  |some (.map es _)=>findKey k es 0
  |_=>none
 |_=>none
def dM(tk te:TI)(m k:AV)(ok:Bool)(H:qn):Option AV:=
 match k with
 | .pv k=>if xv tk.td k then match J5 m k H with
  |some (some (_,v,_))=>some (if ok then .xS [.pv v,.pv (.bool true)]else .pv v)
  |some none=>some (if ok then .xS [.pv (Ke te),.pv (.bool false)]else .pv (Ke te))
  |none=>none
  else none
 |_=>none
def ij(tk te:TI)(m k:AV)(ok:Bool)(H:qn):Option AV:=none
def cy(tk:TI)(m k v:AV)(H:qn):Option (List (Nat×qC)):=none
def pI(tk:TI)(m k:AV)(v:PV)(H:qn):Option (List (Nat×qC)):=
 match m,k with
 | .map β,.pv k=>if xv tk.td k then match H.get β with
  |some (.map es zI)=>match findKey k es 0 with
   |some (some (i,_,born))=>some [(β,.map (es.set i (k,v,born)) zI)]
   |some none=>some [(β,.map (es++[(k,v,zI)]) (zI+1))]
   |none=>none
  |_=>none
  else none
 |_,_=>none
def ig(tk te:TI)(m k:AV)(H:qn):Option (AV×List (Nat×qC)):=none
def gj(m st:AV)(v:PV)(H:qn):Option (List (Nat×qC)):=none
def rB(tk:TI)(m k:AV)(H:qn):Option (List (Nat×qC)):=
 match m,k with
 | .pv .gG,.pv k=>if xv tk.td k then some []else none
 | .map β,.pv k=>if xv tk.td k then match H.get β with
  |some (.map es zI)=>match findKey k es 0 with
   |some (some (i,_,_))=>some [(β,.map (es.eraseIdx i) zI)]
   |some none=>some [(β,.map es zI)]
   |none=>none
  |_=>none
  else none
 |_,_=>none
def Hk(x:AV)(H:qn):Option Nat:=
 match x with
 | .pv (.str s)=>some s.length
 | .pv (.sl _ _ es)=>some es.length
 | .pv .gG=>some 0
 | .aT=>some 0
 | .row β zF _ n=>match H.get β with
  |some (.row _ _ es)=>if zF=es.length then some n else none
  |some (.yq _ es)=>if zF=es.length then some n else none
  |some (.jI _ _ es _)=>if zF=es.length then some n else none
  |_=>none
 | .map β=>match H.get β with
  |some (.map es _)=>some es.length
  |_=>none
 |_=>none
def ez(isMax:Bool)(k:IntKind):Int->List AV->Option PV
 |a,[]=>some (.int k a)
 |a,.pv (.int _ b)::r=>ez isMax k (if isMax then(if b>a then b else a)else(if b<a then b else a)) r
 |_,_=>none
def A8(isMax:Bool):List AV->Option PV
 | .pv (.int k a)::r=>ez isMax k a r
 |[.pv (.str a),.pv (.str b)]=>if isMax=true then some (.str (if jP a b=true then b else a))else none
 |_=>none
def tN(td:TD)(aR:TypeId->Option TI)(l c:AV)(nx:Nat):Option bY:=
 match td with
 | .slice e=>match aR e,wW l,wW c with
  |some te,some n,some n' =>
   if n' =n/\0<te.size/\qg n te.bytes=true then some (.row nx (List.replicate n te.zero).length 0 (List.replicate n te.zero).length,[(nx,.row false te.size (List.replicate n te.zero))],nx+1)else none
  |_,_,_=>none
 |_=>none
def AV.refs:AV->List Nat
 | .ptr β _| .yT β _ _ _| .row β _ _ _| .map β=>[β]
 | .agg c=>mb c
 | .xS c=>mb c
 | .lp _ a b=>mb a++mb b
 |_=>[]
where mb:List AV->List Nat
 |[]=>[]
 |v::r=>v.refs++mb r
def AV.rows:AV->List Nat
 | .row β _ _ _=>[β]
 | .agg c=>l7 c
 | .xS c=>l7 c
 |_=>[]
where l7:List AV->List Nat
 |[]=>[]
 |v::r=>v.rows++l7 r
def AV.vJ(β:Nat)(qq:Bool)(sz:Nat)(es:List (List PV)):AV->AV
 | .row β' zF off n=>if β' =β/\zF=es.length then .pv (Cf qq sz ((es.drop off).take n))else .row β' zF off n
 | .agg c=>ZQ (pz c)
 | .xS c=> .xS (pz c)
 | .lp f a b=> .lp f (pz a) (pz b)
 |v=>v
where pz:List AV->List AV
 |[]=>[]
 |v::r=>AV.vJ β qq sz es v::pz r
def qC.vJ(β:Nat)(qq:Bool)(sz:Nat)(es:List (List PV)):qC->qC
 | .box c=> .box (AV.vJ.pz β qq sz es c)
 | .yq PA eg=> .yq PA (eg.map (AV.vJ.pz β qq sz es))
 |b=>b
def freeze(β:Nat)(s:St):St:=
 match s.heap.get β with
 |some (.row qq sz es)=>
  { s with env:=s.env.map (fun (t,v)=>(t,v.vJ β qq sz es)),heap:=qn.put (s.heap.map fun(i,b)=>(i,b.vJ β qq sz es)) β .xf }
 |some (.jI qq _ es none)=>
  { s with env:=s.env.map (fun (t,v)=>(t,v.vJ β qq 1 (es.map fun p=>[p]))),heap:=qn.put (s.heap.map fun(i,b)=>(i,b.vJ β qq 1 (es.map fun p=>[p]))) β .xf }
 |_=>s
def ud:List Nat->St->St
 |[],s=>s
 |β::r,s=>ud r (freeze β s)
def rF(es:List (List PV)):Bool:=es.all fun e=>e.all PV.Kk
def Yh(qq:Bool)(d:Nat)(ds:List Nat)(es:List (List PV)):Option qC:=
 match ds with
 |[]=>some (.row qq d es)
 |_::_=>if d=1 then some (.jI qq ds es.flatten none)else none
def Yj(H:qn)(nx β i:Nat):Option (qn×Nat×Nat):=
 match H.get β with
 |some (.jI false fw es none)=>match fw with
  |d::ds=>match es[i]? with
   |some (.sl qq _ eg)=>match Yh qq d ds eg with
    |some b=>some (qn.put (qn.put H β (.jI false (d::ds) es (some (i,nx,eg.length)))) nx b,nx+1,nx)
    |none=>none
   |_=>none
  |[]=>none
 |some (.jI false _ _ (some x))=>if x.1=i then some (H,nx,x.2.1)else none
 |_=>none
def sQ(H:qn)(nx β:Nat):List Nat->qn×Nat
 |[]=>(H,nx)
 |i::r=>match Yj H nx β i with
  |some (H',cL,γ)=>sQ H' cL γ r
  |none=>(H,nx)
def Qw(d:Nat)(ds:List Nat)(zF:Nat):qC->Option PV
 | .row qq sz es=>match ds with
  |[]=>if zF=es.length/\(qq=true\/sz=d)/\rF es=true then some (.sl qq (zC d es) es)else none
  |_::_=>none
 | .jI qq T6 es none=>match ds with
  |[]=>none
  |_::_=>if T6=ds/\d=1/\zF=es.length then some (.sl qq (zC d (es.map fun p=>[p])) (es.map fun p=>[p]))else none
 |_=>none
def Vn(H:qn)(β:Nat):qn:=
 match H.get β with
 |some (.jI false (d::ds) es (some (i,γ,zF)))=>match H.get γ with
  |some b=>match Qw d ds zF b with
   |some p=>qn.put (qn.put H β (.jI false (d::ds) (es.set i p) none)) γ .xf
   |none=>H
  |none=>H
 |_=>H
def Ka:Nat->qn->Nat->qn
 |0,H,_=>H
 |n+1,H,β=>match H.get β with
  |some (.jI _ _ _ (some x))=>Vn (Ka n H x.2.1) β
  |_=>H
def gr(s:St)(t:Nat):AV:=
 if t<1000 then s.env.get t else match s.env.get (t % 1000)with
  | .ptr β o=>match s.heap.get β with
   |some (.box c)=>match c[o+(t / 1000-1)]? with|some v=>v|none=> .undef
   |_=> .undef
  |_=> .undef
def Pp(s:St):List Nat->Option (List Nat)
 |[]=>some []
 |t::r=>match wW (gr s t),Pp s r with
  |some n,some l=>some (n::l)
  |_,_=>none
def ou(s:St)(t:Nat)(v:AV):St:=
 if t<1000 then{ s with env:=(t,v)::s.env }else match s.env.get (t % 1000)with
  | .ptr β o=>match s.heap.get β with
   |some (.box c)=>if o+(t / 1000-1)<c.length then{ s with heap:=qn.put s.heap β (.box (c.set (o+(t / 1000-1)) v)) }else s
   |_=>s
  |_=>s
def Jn(n:Nat):qC->Option (Nat×qC)
 | .row false sz es=>if n<=es.length then some (es.length,.row false sz (es.take n))else none
 | .jI qq fw es none=>if n<=es.length then some (es.length,.jI qq fw (es.take n) none)else none
 |_=>none
def om:List Nat->qC
 |[]=> .row true 0 []
 |d::ds=> .jI true (d::ds) [] none
def XC(s:St):AV->List Nat
 | .ptr β _=>match s.heap.get β with
  |some (.box c)=>AV.rows.l7 c
  |_=>[]
 |v=>v.rows
def W2(c:RW)(s:St):St:=
 match c with
 | .focus t is=>match gr s t,Pp s is with
  | .row β _ 0 _,some l=>{ s with heap:=(sQ s.heap s.nx β l).1,nx:=(sQ s.heap s.nx β l).2 }
  |_,_=>s
 | .pack t=>match gr s t with
  | .row β _ _ _=>{ s with heap:=Ka 4 s.heap β }
  |_=>s
 | .cut t=>match gr s t with
  | .row β zF 0 n=>match s.heap.get β with
   |some b=>match Jn n b with
    |some (l,y)=>if zF=l then ou { s with heap:=qn.put (qn.put s.heap β .xf) s.nx y,nx:=s.nx+1 } t (.row s.nx n 0 n)else s
    |none=>s
   |none=>s
  |_=>s
 | .prom t fw=>match gr s t with
  | .pv (.sl true _ [])=>ou { s with heap:=qn.put s.heap s.nx (om fw),nx:=s.nx+1 } t (.row s.nx 0 0 0)
  |_=>s
 | .HV t=>ud (XC s (gr s t)) s
def mg:List RW->St->St
 |[],s=>s
 |c::r,s=>mg r (W2 c s)
inductive Ex where
 |normal
 |ret
 |exit (id:Nat)
 deriving DecidableEq,Inhabited
structure zS where
 call:FuncId->List AV->qn->Option (AV×qn)
 loop:FuncId->Nat->St->Option (Ex×St)
def AV.rE(g:Nat->Nat):AV->AV
 | .ptr β o=> .ptr (g β) o
 | .yT β v i o=> .yT (g β) v i o
 | .row β v off n=> .row (g β) v off n
 | .map β=> .map (g β)
 | .agg c=> .agg (iU g c)
 | .xS c=> .xS (iU g c)
 | .lp f a b=> .lp f (iU g a) (iU g b)
 |v=>v
where iU (g:Nat->Nat):List AV->List AV
 |[]=>[]
 |v::r=>AV.rE g v::iU g r
def qC.rE(g:Nat->Nat):qC->qC
 | .jI qq fw es i5=> .jI qq fw es (i5.map fun x=>(x.1,g x.2.1,x.2.2))
 | .box c=> .box (AV.rE.iU g c)
 | .yq sz es=> .yq sz (es.map (AV.rE.iU g))
 |b=>b
def qC.refs:qC->List Nat
 | .jI _ _ _ i5=>match i5 with|some x=>[x.2.1]|none=>[]
 | .box c=>AV.refs.mb c
 | .yq _ es=>es.flatMap AV.refs.mb
 |_=>[]
def pos:List Nat->Nat->Nat
 |[],_=>0
 |β::r,x=>if β=x then 0 else pos r x+1
def JY:List Nat->Nat->Bool
 |[],_=>false
 |β::r,x=>if β=x then true else JY r x
def Un:List Nat->List Nat->Bool
 |[],_=>true
 |x::r,L=>JY L x&&Un r L
def tB(H:qn)(β:Nat):qC:=match H.get β with|some b=>b|none=> .xf
def bE(H:qn):Nat->List Nat->List Nat->List Nat
 |0,_,d=>d
 |_+1,[],d=>d
 |n+1,β::r,d=>if JY d β then bE H n r d else bE H n (r++(tB H β).refs) (d++[β])
def mn(H:qn)(L:List Nat):List Nat->Bool
 |[]=>true
 |β::r=>(match H.get β with|some b=>Un b.refs L|none=>false)&&mn H L r
def pick(H:qn)(g:Nat->Nat):Nat->List Nat->qn
 |_,[]=>[]
 |i,β::r=>(i,(tB H β).rE g)::pick H g (i+1) r
def tu(H:qn)(d:List Nat)(roots:List Nat):Option (List Nat×qn):=
 match roots,d with
 |[],[]=>some ([],[])
 |roots,d=>
  let L:=bE H 400 (roots++d.flatMap fun β=>(tB H β).refs) d
  if Un roots L&&mn H L L then some (L,pick H (pos L) 0 L)else none
def qS:List (Nat×qC)->qn->qn
 |[],H=>H
 |(i,b)::r,H=>qS r (qn.put H i b)
def xO(L:List Nat)(nx:Nat)(j:Nat):Nat:=match L[j]? with|some β=>β|none=>nx+(j-L.length)
def vj(g:Nat->Nat):qn->List (Nat×qC)
 |[]=>[]
 |(i,b)::r=>(g i,b.rE g)::vj g r
def yV:Nat->qn->Bool
 |_,[]=>true
 |i,(j,_)::r=>decide (j=i)&&yV (i+1) r
def fO(O:zS)(f:FuncId)(args:List AV)(H:qn)(nx:Nat):Option bY:=
 match tu H [] (AV.refs.mb args)with
 |none=>none
 |some (L,H0)=>
  match O.call f (AV.rE.iU (pos L) args) H0 with
  |none=>none
  |some (v,H')=>if yV 0 H' =true then some (v.rE (xO L nx),vj (xO L nx) H',nx+(H'.length-L.length))else none
def Ly:Option bY->Option bY->Option bY
 |some r,_=>some r
 |none,y=>y
def pG(G:GP)(b:Builtin)(rI:List TypeId)(args:List AV)(H:qn)(nx:Nat):Option bY:=
 match b,rI,args with
 | .len,t::_,[x]=>match G.ti t with
  |some ti=>if Qn ti.td x=true then match Hk x H with|some n=>some (.pv (.int .i64 n),[],nx)|none=>none else none
  |none=>none
 | .unsafeSliceData,_,[x]=>mJ x H nx
 | .unsafeString,tp::_,[p,x]=>match G.ti tp with
  |some ti=>match ti.pe with
   |some el=>match G.ti el with|some tel=>if tel.size=1 then uw el p x H nx else none|none=>none
   |none=>none
  |none=>none
 | .max,_,l=>match A8 true l with|some p=>some (.pv p,[],nx)|none=>none
 | .min,_,l=>match A8 false l with|some p=>some (.pv p,[],nx)|none=>none
 | .append,ts::tx::_,[s,x]=>match G.ti ts,G.ti tx with
  |some ti,some eJ=>match ti.td,eJ.td with
   | .slice e,.slice _=>match G.ti e with|some te=>Ly (ua te s x H nx) (Ly (uU e te s x H nx) (bA te s x H nx))|none=>none
   | .slice e,.string=>match G.ti e with|some te=>Ly (ua te s x H nx) (Ly (uU e te s x H nx) (bA te s x H nx))|none=>none
   |_,_=>none
  |_,_=>none
 | .copy,ts::_,[s,x]=>match G.ti ts with
  |some ti=>match ti.td with
   | .slice e=>match G.ti e with|some te=>Q2 te s x H nx|none=>none
   |_=>none
  |none=>none
 | .delete,tm::_,[m,k]=>match G.ti tm with
  |some ti=>match ti.td with
   | .map tk _=>match G.ti tk with
    |some tk=>match rB tk m k H with|some ws=>some (.xS [],ws,nx)|none=>none
    |none=>none
   |_=>none
  |none=>none
 |_,_,_=>none
def rV(G:GP)(t:TypeId):Option (TI×TI):=
 match G.ti t with
 |some ti=>match ti.td with
  | .map k e=>match G.ti k,G.ti e with
   |some tk,some te=>some (tk,te)
   |_,_=>none
  |_=>none
 |none=>none
def nf(ws:Option (List (Nat×qC)))(nx:Nat):Option bY:=match ws with|some ws=>some (.xS [],ws,nx)|none=>none
def gf(v:Option AV)(nx:Nat):Option bY:=match v with|some v=>some (v,[],nx)|none=>none
def ZY(v:Option PV)(nx:Nat):Option bY:=match v with|some v=>some (.pv v,[],nx)|none=>none
def isBytes(G:GP)(t:TypeId):Bool:=
 match G.ti t with
 |some ti=>match ti.td with
  | .slice e=>match G.ti e with
   |some te=>match te.td with
    | .int .u8=>true
    |_=>false
   |none=>false
  |_=>false
 |none=>false
def Q1(G:GP)(t:TypeId)(ti:TI)(nx:Nat):Option bY:=none
def mU(G:GP)(t:TypeId)(x:AV)(H:qn)(nx:Nat):Option bY:=none
def ik(G:GP)(t:TypeId)(m k x:AV)(H:qn)(nx:Nat):Option bY:=
 match rV G t with
 |some (tk,te)=>if x.slc=true then nf (cy tk m k x H) nx else none
 |none=>none
def aBox(HV:Bool)(c:List AV)(nx:Nat):Option bY:=
 if HV=true then match ip c with|some l=>some (.pv (.rp l),[],nx)|none=>none else some (.ptr nx 0,[(nx,.box c)],nx+1)
def ni(G:GP)(O:zS)(o:Op)(E:vF)(H:qn)(nx:Nat):Option bY:=
 match o with
 | .move x=>some (ev E x,[],nx)
 | .assign x=>some (ev E x,[],nx)
 | .pick c a b=>match ev E c with| .pv (.bool t)=>some (if t then ev E a else ev E b,[],nx)|_=>none
 | .alloc t=>match G.ti t with|some ti=>if G.DV t=true then Q1 G t ti nx else some (.ptr nx 0,[(nx,.box (ti.zero.map .pv))],nx+1)|none=>none
 | .box t x=>if(ev E x).Bs=true then aBox (G.HV t) (ev E x).cells nx else none
 | .build t parts=>match G.ti t with|some ti=>gf (XZ ti G.ti (ev E) parts.toList) nx|none=>none
 | .buildSlice t len parts=>match G.ti t with
  |some ti=>match ti.td with
   | .slice e=>match G.ti e with
    |some te=>if 0<te.size/\len*te.size<=2^24 then if G.DV t=true then(match mo te.size (ev E) parts.toList (List.replicate len (te.zero.map .pv))with
     |some es=>some (.row nx es.length 0 es.length,[(nx,.yq te.size es)],nx+1)
     |none=>none)else match pK te.size (ev E) parts.toList (List.replicate len te.zero)with
     |some es=>some (.row nx es.length 0 es.length,[(nx,.row false te.size es)],nx+1)
     |none=>none
     else none
    |none=>none
   |_=>none
  |none=>none
 | .load t a=>match G.ti t with|some ti=>gf (oO ti (ev E a) H) nx|none=>none
 | .store t a x=>match G.ti t with|some ti=>nf (e8 ti (ev E a) (ev E x) H) nx|none=>none
 | .nilCheck x=>match ev E x with
  | .ptr β o=>some (.ptr β o,[],nx)
  | .mR c o=>some (.mR c o,[],nx)
  | .pv (.rp c)=>some (.pv (.rp c),[],nx)
  | .yT β v i o=>some (.yT β v i o,[],nx)
  | .pv (.fn f)=>some (.pv (.fn f),[],nx)
  | .lp f a b=>some (.lp f a b,[],nx)
  |_=>none
 | .binOp op t x y _=>match G.ti t with|some ti=>ZY (Nf G.ti op ti (ev E x) (ev E y) H) nx|none=>none
 | .unOp op _ x=>ZY (aUn op (ev E x)) nx
 | .convert s d x=>if s=d then mU G s (ev E x) H nx else match G.ti s,G.ti d with|some ts,some td=>pH ts.td td.td G.ti (ev E x) H nx|_,_=>none
 | .makeFunc (.func f) a b=>some (match a.toList,b.toList with|[],[]=> .pv (.fn f)|a,b=> .lp f (a.map (ev E)) (b.map (ev E)),[],nx)
 | .makeMap t none=>some (.map nx,[(nx,.map [] 0)],nx+1)
 | .slice t x lo hi mx=>match G.ti t with|some ti=>gf (ft ti.td G.ti (ev E) (ev E x) lo hi mx H) nx|none=>none
 | .fieldAddr t x f=>match G.ti t with|some ti=>gf (aZ ti.td (ev E x) f) nx|none=>none
 | .field t x f=>match G.ti t with
  |some ti=>match ti.td with
   | .struct fs=>match fs[f]? with
    |some (off,_,tf)=>match G.ti tf with|some fM=>gf (Hp fM (ev E x) off) nx|none=>none
    |none=>none
   |_=>none
  |none=>none
 | .indexAddr t x i=>match G.ti t with|some ti=>gf (mI ti.td G.ti (ev E x) (ev E i) H) nx|none=>none
 | .index t x i=>match G.ti t with
  |some ti=>match ti.td,ev E x,wW (ev E i)with
   | .string,.pv (.str s),some k=>match s[k]? with|some b=>some (.pv (.int .u8 b.toNat),[],nx)|none=>none
   | .array len e,x,some k=>if k<len then match G.ti e with|some te=>gf (Hp te x (k*te.size)) nx|none=>none else none
   |_,_,_=>none
  |none=>none
 | .lookup t m k ok=>match rV G t with|some (tk,te)=>gf (if G.DV t=true then ij tk te (ev E m) (ev E k) ok H else dM tk te (ev E m) (ev E k) ok H) nx|none=>none
 | .mapUpdate t m k x=>if G.DV t=true then ik G t (ev E m) (ev E k) (ev E x) H nx else match rV G t,Kd (ev E x)with
  |some (tk,te),some p=>if p.cells.length=te.size then nf (pI tk (ev E m) (ev E k) p H) nx else none
  |_,_=>none
 | .insert t m k x=>match rV G t,Kd (ev E x)with
  |some (tk,te),some p=>if p.cells.length=te.size then nf (pI tk (ev E m) (ev E k) p H) nx else none
  |_,_=>none
 | .mapEntry t m k=>match rV G t with
  |some (tk,te)=>match ig tk te (ev E m) (ev E k) H with|some (v,ws)=>some (v,ws,nx)|none=>none
  |none=>none
 | .entryStore _ m st x=>match Kd (ev E x)with|some p=>nf (gj (ev E m) (ev E st) p H) nx|none=>none
 | .extract t i=>match ev E t with
  | .xS l=>match l[i]? with|some v=>some (v,[],nx)|none=>none
  |_=>none
 | .call { callee:= .builtin b,args,argTypes }=>pG G b argTypes.toList (args.toList.map (ev E)) H nx
 | .call { callee:= .value f,args,.. }=>match ev E f with
  | .pv (.fn f)=>fO O f (args.toList.map (ev E)) H nx
  | .lp f a b=>fO O f (a++args.toList.map (ev E)++b) H nx
  |_=>none
 | .makeSlice t l c=>match G.ti t with|some ti=>tN ti.td G.ti (ev E l) (ev E c) nx|none=>none
 |_=>none
def GA(G:GP)(o:Op)(E:vF):List Nat:=
 match o with
 | .store _ a x=>match ev E a with| .yT _ _ _ _=>(ev E x).rows|_=>[]
 | .buildSlice t _ parts=>if G.DV t then[]else AV.rows.l7 (parts.toList.map fun x=>ev E x.2)
 | .mapUpdate _ _ _ x=>(ev E x).rows
 | .insert _ _ _ x=>(ev E x).rows
 | .entryStore _ _ _ x=>(ev E x).rows
 | .call { callee:= .value f,args,.. }=>match ev E f with
  | .pv (.fn f)=>if G.owned f then[]else AV.rows.l7 (args.toList.map (ev E))
  | .lp f _ _=>if G.owned f then[]else AV.rows.l7 (args.toList.map (ev E))
  |_=>[]
 |_=>[]
def vM(all:List Oper)(o:Oper)(E:vF):Option Bool:=
 match o.guard with
 |none=>some true
 |some (j,want)=>match all[j]? with
  |some oj=>match oj.dst with
   |some d=>match E.get d with
    | .pv (.bool b)=>some (b==want)
    | .xS []=>some false
    |_=>none
   |none=>some false
  |none=>some false
def cO(d:Option Tmp)(v:AV)(E:vF):vF:=match d with|some d=>(d,v)::E|none=>E
def QI(G:GP)(O:zS)(o:Oper)(s:St):Option St:=
 match ni G O o.op s.env s.heap s.nx with
 |some (v,ws,nx)=>some { env:=cO o.dst v s.env,heap:=qS ws s.heap,nx:=nx }
 |none=>none
def QY(G:GP)(O:zS)(all:List Oper):List Oper->St->Option St
 |[],s=>some s
 |o::r,s=>
  match vM all o s.env with
  |some true=>match QI G O o (ud (GA G o.op s.env) s)with
   |some s' =>QY G O all r s'
   |none=>none
  |some false=>QY G O all r { s with env:=cO o.dst (.xS []) s.env }
  |none=>none
def mF(o:Op)(E:vF)(H:qn):List Nat:=
 match o with
 | .load _ a=>(ev E a).refs
 | .store _ a _=>(ev E a).refs
 | .binOp _ _ x y _=>(ev E x).refs++(ev E y).refs
 | .convert _ _ x=>(ev E x).refs
 | .slice _ x _ _ _=>(ev E x).refs
 | .indexAddr _ x _=>(ev E x).refs
 | .lookup _ m _ _=>(ev E m).refs
 | .mapUpdate _ m _ _=>(ev E m).refs
 | .insert _ m _ _=>(ev E m).refs
 | .mapEntry _ m _=>(ev E m).refs
 | .entryStore _ m _ _=>(ev E m).refs
 | .call { callee:= .builtin _,args,.. }=>AV.refs.mb (args.toList.map (ev E))
 | .call { callee:= .value f,args,.. }=>match ev E f with
  | .pv (.fn _)=>bE H 400 (AV.refs.mb (args.toList.map (ev E))) []
  | .lp _ a b=>bE H 400 (AV.refs.mb (a++args.toList.map (ev E)++b)) []
  |_=>[]
 |_=>[]
def YE(ms:List Nat)(o:Oper):Nat:=o.after.toList.foldl (fun m e=>if Region.binds .any e=true then m ||| (1 <<< e.on) ||| ms.getD e.on 0 else m) 0
def wb(ms:List Nat):List Oper->List Nat
 |[]=>ms
 |o::r=>wb (ms++[YE ms o]) r
def ordered(ms:List Nat)(i j:Nat):Bool:=(ms.getD j 0).testBit i
def Xf:List Nat->List Nat->Bool
 |[],_=>true
 |x::r,L=> !JY L x&&Xf r L
def o9(ms:List Nat)(j:Nat)(rd wr:List Nat):List (Nat×List Nat×List Nat)->Bool
 |[]=>true
 |(i,rdi,wri)::r=>(ordered ms i j || (Xf wri rd&&Xf wri wr&&Xf rdi wr))&&o9 ms j rd wr r
def nk(ms:List Nat):List (Nat×List Nat×List Nat)->Bool
 |[]=>true
 |(j,rd,wr)::r=>o9 ms j rd wr r&&nk ms r
mutual
def PV.ka:PV->PV->Bool
 | .bool a,.bool b=>a==b
 | .int k a,.int l b=>decide (k=l)&&decide (a=b)
 | .str a,.str b=>decide (a=b)
 | .agg a,.agg b=>PV.dC a b
 | .sl n z a,.sl m y b=>n==m&&decide (z=y)&&PV.ru a b
 | .jk,.jk=>true
 | .rX,.rX=>true
 | .gG,.gG=>true
 | .dT,.dT=>true
 | .fn f,.fn g=>decide (f=g)
 | .rp a,.rp b=>PV.dC a b
 |_,_=>false
def PV.dC:List PV->List PV->Bool
 |[],[]=>true
 |x::r,y::q=>PV.ka x y&&PV.dC r q
 |_,_=>false
def PV.ru:List (List PV)->List (List PV)->Bool
 |[],[]=>true
 |x::r,y::q=>PV.dC x y&&PV.ru r q
 |_,_=>false
end
def AV.ka:AV->AV->Bool
 | .pv a,.pv b=>PV.ka a b
 | .ptr b o,.ptr c q=>decide (b=c)&&decide (o=q)
 | .row b v o n,.row c w q m=>decide (b=c)&&decide (v=w)&&decide (o=q)&&decide (n=m)
 | .aT,.aT=>true
 | .map b,.map c=>decide (b=c)
 |_,_=>false
def AV.dC:List AV->List AV->Bool
 |[],[]=>true
 |x::r,y::q=>AV.ka x y&&AV.dC r q
 |_,_=>false
def AV.ru:List (List AV)->List (List AV)->Bool
 |[],[]=>true
 |x::r,y::q=>AV.dC x y&&AV.ru r q
 |_,_=>false
def qC.ka:qC->qC->Bool
 | .box a,.box b=>AV.dC a b
 | .row n z a,.row m y b=>n==m&&decide (z=y)&&PV.ru a b
 | .yq z a,.yq y b=>decide (z=y)&&AV.ru a b
 | .xf,.xf=>true
 |_,_=>false
def Mf(H:qn)(β:Nat)(b:qC):Bool:=match H.get β with|some c=>qC.ka c b|none=>false
def trim(rd:List Nat):qn->List (Nat×qC)->List (Nat×qC)
 |_,[]=>[]
 |H,(β,b)::r=>if JY rd β&&Mf H β b then trim rd H r else(β,b)::trim rd (H.put β b) r
def fK(tm:Bool)(rd:List Nat)(H:qn)(ws:List (Nat×qC)):List (Nat×qC):=match tm with|true=>trim rd H ws|false=>ws
def o0:List Nat->Bool
 |[]=>false
 |x::r=>x==999999 || o0 r
def cA(G:GP)(O:zS)(all:List Oper)(tm:Bool):Nat->List Oper->St->List (Nat×List Nat×List Nat)->Option St
 |_,[],s,log=>if nk (wb [] all) log=true then some s else none
 |i,o::r,s,log=>
  match vM all o s.env with
  |some true=>match ni G O o.op s.env s.heap s.nx with
   |some (v,ws,nx)=>cA G O all tm (i+1) r ⟨cO o.dst v s.env,qS (fK tm (mF o.op s.env s.heap) s.heap ws) s.heap,nx⟩ ((i,mF o.op s.env s.heap,(fK tm (mF o.op s.env s.heap) s.heap ws).map (·.1))::log)
   |none=>none
  |some false=>cA G O all tm (i+1) r { s with env:=cO o.dst (.xS []) s.env } log
  |none=>none
def restrict(E:vF):List Nat->vF
 |[]=>[]
 |t::r=>(t,E.get t)::restrict E r
def setEnv:vF->Nat->AV->vF
 |[],n,x=>[(n,x)]
 |(i,v)::r,n,x=>if i=n then(i,x)::r else(i,v)::setEnv r n x
def jQ:List Nat->St->St
 |[],s=>s
 |t::r,s=>match s.env.get t with
  | .pv (.sl true _ [])=>jQ r { env:=setEnv s.env t (.row s.nx 0 0 0),heap:=qn.put s.heap s.nx (.row true 0 []),nx:=s.nx+1 }
  |_=>jQ r s
def zL:List (Nat×Nat)->St->St
 |[],s=>s
 |(t,k)::r,s=>match s.env.get t with
  | .ptr β o=>match s.heap.get β with
   |some (.box c)=>match c[o+k]? with
    |some (.pv (.sl true _ []))=>
     zL r { env:=s.env,heap:=qn.put (qn.put s.heap s.nx (.row true 0 [])) β (.box (c.set (o+k) (.row s.nx 0 0 0))),nx:=s.nx+1 }
    |_=>zL r s
   |_=>zL r s
  |_=>zL r s
def TR(H:qn):AV->List Nat
 | .ptr β _=>match H.get β with
  |some (.box c)=>AV.rows.l7 c
  |_=>[]
 |v=>v.rows
def HA(H:qn)(k:Nat):AV->List Nat
 | .ptr β o=>match H.get β with
  |some (.box c)=>match c[o+k]? with|some v=>v.rows|none=>[]
  |_=>[]
 |_=>[]
def sI(E:vF)(H:qn):List Nat->List Nat
 |[]=>[]
 |t::r=>(if t<1000 then TR H (E.get t)else HA H (t / 1000-1) (E.get (t % 1000)))++sI E H r
def enter(sp:nU)(s:St):St:=
 let s1:=zL sp.zL (jQ sp.jQ s)
 let s2:=ud (sI s1.env s1.heap sp.freeze) s1
 { s2 with env:=restrict s2.env sp.YD }
def rK(n:Nat):List Nat->Bool
 |[]=>true
 |x::r=>decide (x<n)&&rK n r
def vF.below(n:Nat):vF->Bool
 |[]=>true
 |(_,v)::r=>rK n v.refs&&vF.below n r
def qn.upto(n:Nat):qn->qn
 |[]=>[]
 |(i,b)::r=>if i<n then(i,b)::qn.upto n r else qn.upto n r
def qn.below(n:Nat):qn->Bool
 |[]=>true
 |(_,b)::r=>rK n b.refs&&qn.below n r
def narrow(Ko:List Nat)(n:Nat)(s:St):Option St:=
 let E:=restrict s.env Ko
 let H:=qn.upto n s.heap
 if vF.below n E&&qn.below n H then some ⟨E,H,n⟩else none
def a7(Ko:List Nat)(n:Nat)(s:St):St:=
 match narrow Ko n s with
 |some s' =>s'
 |none=>{ s with env:=restrict s.env Ko }
def Pa(g:Nat->Nat):vF->vF
 |[]=>[]
 |(t,v)::r=>(t,v.rE g)::Pa g r
def VD:vF->List Nat
 |[]=>[]
 |(_,v)::r=>v.refs++VD r
def canon(Ko:List Nat)(n:Nat)(s:St):Option St:=
 match tu s.heap (List.range n) (VD (restrict s.env Ko))with
 |some (L,H')=>some ⟨Pa (pos L) (restrict s.env Ko),H',H'.length⟩
 |none=>none
def fx(sp:nU)(s:St):Option St:=
 if sp.own=1000 then some (enter sp s)else
 match sp.own with
 |0=>some (enter sp s)
 |k+1=>match canon sp.YD s.nx (enter sp s)with
  |some s1=>if s1.nx=s.nx+(k+1)then some s1 else none
  |none=>none
def Qm(sp:nU)(n:Nat)(s:St):Option St:=if n<=s.nx then some { s with env:=restrict s.env sp.YD }else none
def again(sp:nU)(n:Nat)(s' :St):Option St:=
 if sp.own=1000 then Qm sp n (zL sp.zL (jQ sp.jQ s'))else
 match sp.own with
 |0=>narrow sp.YD n s'
 |k+1=>match canon sp.YD (n-(k+1)) (zL sp.zL (jQ sp.jQ s'))with
  |some s1=>if s1.nx=n then some s1 else none
  |none=>none
def leave(sp:nU)(n:Nat)(s' :St):Option St:=
 if sp.own=1000 then some { s' with env:=restrict s'.env sp.out }else
 match sp.own with
 |0=>some (a7 sp.out n s')
 |k+1=>canon sp.out (n-(k+1)) s'
def left(ex:Ex):Option St->Option (Ex×St)
 |some s=>some (ex,s)
 |none=>none
def zv:Code->Nat->Option Code
 | .seq a b,i=>match zv a i with|some c=>some c|none=>zv b i
 | .block id (.loop c),i=>if id=i then some c else zv c i
 | .block _ c,i=>zv c i
 | .cond _ a b,i=>match zv a i with|some c=>some c|none=>zv b i
 | .loop c,i=>zv c i
 |_,_=>none
def pres(G:GP)(f:FuncId)(id:Nat)(s:St):St:=ud (sI s.env s.heap (G.pre f id)) s
def exec(G:GP)(O:zS)(f:FuncId):Code->St->Option (Ex×St)
 | .skip,s=>some (.normal,s)
 | .region id ops false,s=>match QY G O ops.toList ops.toList (mg (G.cmd f (2*id)) s)with|some s' =>some (.normal,mg (G.cmd f (2*id+1)) s')|none=>none
 | .region id ops true,s=>match cA G O ops.toList (o0 (G.pre f id)) 0 ops.toList (pres G f id (mg (G.cmd f (2*id)) s)) []with|some s' =>some (.normal,mg (G.cmd f (2*id+1)) s')|none=>none
 | .seq a b,s=>match exec G O f a s with
  |some (.normal,s')=>exec G O f b s'
  |some (.ret,s')=>some (.ret,s')
  |some (.exit i,s')=>some (.exit i,s')
  |none=>none
 | .cond c t e,s=>match ev s.env c with
  | .pv (.bool b)=>match b with
   |true=>exec G O f t s
   |false=>exec G O f e s
  |_=>none
 | .block id (.loop _),s=>match fx (G.spec f id) s with
  |some s1=>O.loop f id s1
  |none=>none
 | .block id c,s=>match exec G O f c s with
  |some (.exit i,s')=>if i=id then some (.normal,s')else some (.exit i,s')
  |some (.normal,s')=>some (.normal,s')
  |some (.ret,s')=>some (.ret,s')
  |none=>none
 | .exit id,s=>some (.exit id,s)
 | .ret,s=>some (.ret,s)
 |_,_=>none
def nu(G:GP)(O:zS)(f:FuncId)(id:Nat)(s:St):Option (Ex×St):=
 match G.fn f with
 |none=>none
 |some fi=>match zv fi.body id with
  |none=>none
  |some c=>match exec G O f c s with
   |some (.normal,s')=>match again (G.spec f id) s.nx (ud (sI s'.env s'.heap (G.spec f id).freeze) s')with
    |some Ov=>O.loop f id Ov
    |none=>none
   |some (.exit i,s')=>if i=id then left .normal (leave (G.spec f id) s.nx s')else left (.exit i) (leave (G.spec f id) s.nx s')
   |some (.ret,s')=>left .ret (leave (G.spec f id) s.nx s')
   |none=>none
def VH(G:GP)(s:St):ResultVar->Option AV
 | .tmp t=>some (s.env.get t)
 | .cell a t=>match G.ti t with|some ti=>oO ti (s.env.get a) s.heap|none=>none
def dx(G:GP)(s:St):List ResultVar->Option (List AV)
 |[]=>some []
 |r::l=>match VH G s r,dx G s l with
  |some v,some vs=>some (v::vs)
  |_,_=>none
def o4:List AV->AV
 |[v]=>v
 |l=> .xS l
def unz:AV->AV
 | .aT=> .pv (.sl false 0 [])
 |v=>v
def finish(m:Nat)(tA:Bool)(v:AV)(s:St):Option (AV×qn):=
 let s1:=if tA then{ s with env:=[(0,v)] }else ud v.rows { s with env:=[(0,v)] }
 let v1:=unz (s1.env.get 0)
 match tu s1.heap (List.range m) v1.refs with
 |some (L,H)=>some (v1.rE (pos L),H)
 |none=>none
def pJ:Nat->List AV->vF
 |_,[]=>[]
 |i,v::r=>(i,v)::pJ (i+1) r
def iV(G:GP)(O:zS)(f:FuncId)(args:List AV)(H:qn):Option (AV×qn):=
 match G.fn f with
 |none=>none
 |some fi=>if yV 0 H=true then match exec G O f fi.body ⟨pJ 0 args,H,H.length⟩with
  |some (.exit _,_)=>none
  |some (_,s)=>match dx G (mg (G.cmd f 999999) s) fi.results with
   |some vs=>finish H.length (G.tA f) (o4 vs) (mg (G.cmd f 999999) s)
   |none=>none
  |none=>none
  else none
structure nI where
 call:FuncId->Option (List AV->qn->Option (AV×qn))
def K7(G:GP)(S:nI):Nat->zS
 |0=>⟨fun _ _ _=>none,fun _ _ _=>none⟩
 |n+1=>⟨fun f args H=>match S.call f with|some g=>g args H|none=>iV G (K7 G S n) f args H,fun f id s=>nu G (K7 G S n) f id s⟩
set_option linter.unusedSectionVars false
def PV.kv:PV->Bool
 | .agg _=>false
 |_=>true
def AV.kv:AV->Bool
 | .pv p=>p.kv
 | .agg _| .xS _| .undef=>false
 |_=>true
def rY:Value->Bool
 | .agg _| .tuple _=>false
 |_=>true
inductive Sk where
 |leaf
 |node (b cap:Nat) (ks:List Sk)
 deriving Inhabited
structure Pl where
 b:Nat
 cap:Nat
 ks:List Sk:=[]
def Pl.ka(p q:Pl):Prop:=p.b=q.b/\p.cap=q.cap
theorem Pl.ot(p:Pl):p.ka p:=⟨rfl,rfl⟩
theorem Pl.Pn{p q r:Pl}(h1:p.ka q)(h2:q.ka r):p.ka r:=⟨h1.1.trans h2.1,h1.2.trans h2.2⟩
def Sk.blocks:Sk->List Nat
 | .leaf=>[]
 | .node b _ ks=>b::ks.flatMap Sk.blocks
abbrev vG:=Nat->Pl
def wa(fz:Nat×Nat)(n:Nat):Prop:=fz.1<=fz.2/\ ∀i,i<n-> ¬(fz.1<=i/\i<fz.2)
inductive RP (w:World) (Im:Nat->Prop):PV->Value->Prop
 |bool (b:Bool):RP w Im (.bool b) (.bool b)
 |int (k:IntKind) (n:Int):RP w Im (.int k n) (.int k n)
 |str (l:List UInt8):RP w Im (.str l) (.string ⟨⟨l⟩⟩)
 |agg (c:List PV) (vs:List Value) (hl:c.length=vs.length) (hf: ∀p∈c,p.kv=true)
   (h: ∀(i:Nat) p v,c[i]? =some p->vs[i]? =some v->RP w Im p v):RP w Im (.agg c) (.agg ⟨vs⟩)
 |cJ (sz:Nat):RP w Im (.sl true sz []) (.slice none 0 0)
 |sl (sz:Nat) (es:List (List PV)) (b off cap:Nat) (vs:Nat->Value) (oI:es≠[]->Im b) (Xi:es.length<=cap)
   (bO: ∀e∈es,e.length=sz) (hc: ∀i,i<es.length*sz->w.cell? ⟨b,off+i,none⟩=some (vs i))
   (hf: ∀(i:Nat) e(j:Nat) p,es[i]? =some e->e[j]? =some p->p.kv=true)
   (h: ∀(i:Nat) e(j:Nat) p,es[i]? =some e->e[j]? =some p->RP w Im p (vs (i*sz+j)))
   (sp:Option Nat) (Tn:es≠[]->sp=none):RP w Im (.sl false sz es) (.slice (some ⟨b,off,sp⟩) es.length cap)
 |jk:RP w Im .jk (.pointer none)
 |rX:RP w Im .rX .nilFunc
 |gG:RP w Im .gG (.map none)
 |dT:RP w Im .dT .nilIface
 |fn (f:FuncId):RP w Im (.fn f) (.func (.func f) #[] #[])
 |rp (c:List PV) (b off:Nat) (vs:Nat->Value) (oI:Im b) (hc: ∀i,i<c.length->w.cell? ⟨b,off+i,none⟩=some (vs i))
   (hf: ∀p∈c,p.kv=true) (h: ∀(i:Nat) p,c[i]? =some p->RP w Im p (vs i)):RP w Im (.rp c) (.pointer (some ⟨b,off,none⟩))
inductive eW (w:World) (Im:Nat->Prop):List Nat->PV->Value->Sk->Prop
 |Kk (p:PV) (v:Value) (hs:p.Kk=true) (h:RP w Im p v):eW w Im [] p v .leaf
 |nil (d:Nat) (ds:List Nat):eW w Im (d::ds) (.sl true 0 []) (.slice none 0 0) .leaf
 |sl (d:Nat) (ds:List Nat) (es:List (List PV)) (b o cap:Nat) (ks:List Sk) (vs:Array Value) (elem:TypeId) (fz:Nat×Nat) (hb:w.heap[b]? =some (.cells vs elem fz)) (hfz:wa fz vs.size)
   (DP:vs.size=cap*d) (hd:0<d) (hle:es.length<=cap) (ho:0<cap->o=0) (rR: ∀e∈es,e.length=d) (G3:ks.length=es.flatten.length)
   (val:Nat->Value) (Xn: ∀i,i<es.flatten.length->vs[i]? =some (val i)) (h: ∀(i:Nat) p k,es.flatten[i]? =some p->ks[i]? =some k->eW w Im ds p (val i) k):
   eW w Im (d::ds) (.sl false (zC d es) es) (.slice (some ⟨b,o,none⟩) es.length cap) (.node b cap ks)
theorem RP.mk{w:World}{Im:Nat->Prop}{b:Bool}{sz:Nat}{es:List (List PV)}{v:Value}(h:RP w Im (.sl b sz es) v):RP w Im (Cf b sz es) v:=by
 cases es with
 |cons _ _=>exact h
 |nil=>cases h with
  |cJ=>exact .cJ 0
  |sl _ _ b off cap vs oI Xi bO hc hf hh sp Tn=>exact .sl 0 [] b off cap vs (fun h=>absurd rfl h) (Nat.zero_le _) (by simp) (fun i xB=>by simp at xB) (by simp) (by simp) sp (fun h=>absurd rfl h)
def qC.EB:qC->Bool
 | .box _=>true
 |_=>false
inductive RA (w:World) (H:qn) (ι:vG) (Im:Nat->Prop):AV->Value->Prop
 |undef (v:Value):RA w H ι Im .undef v
 |pv (p:PV) (v:Value) (h:RP w Im p v):RA w H ι Im (.pv p) v
 |ptr (β o:Nat) (b:qC) (hb:H.get β=some b) (hk:b.EB=true):RA w H ι Im (.ptr β o) (.pointer (some ⟨(ι β).b,o,none⟩))
 |yT (β zF i o b' o' :Nat) (b:qC) (hb:H.get β=some b) (xU: ∀qq sz l,b.sh=some (qq,sz,l)->zF<=l)
   (h: ∀qq sz l,b.sh=some (qq,sz,l)->zF=l->qq=false->b' =(ι β).b/\o' =i*sz+o):
   RA w H ι Im (.yT β zF i o) (.pointer (some ⟨b',o',none⟩))
 |row (β zF off n:Nat) (v:Value) (b:qC) (ho:rY v=true) (hb:H.get β=some b) (hk:b≠ .xf-> ∃qq sz l,b.sh=some (qq,sz,l))
   (xU: ∀qq sz l,b.sh=some (qq,sz,l)->zF<=l)
   (h: ∀qq sz l,b.sh=some (qq,sz,l)->zF=l->off+n<=l/\
    if qq=true then v= .slice none 0 0
    else ∃a,v= .slice (some a) n ((ι β).cap-off)/\a.spot=none/\a.block=(ι β).b/\(off<(ι β).cap->a.off=off*sz)):
   RA w H ι Im (.row β zF off n) v
 |mR (c:List PV) (o b off:Nat) (vs:Nat->Value) (oI:Im b) (hc: ∀i,i<c.length->w.cell? ⟨b,off+i,none⟩=some (vs i))
   (hf: ∀p∈c,p.kv=true) (h: ∀(i:Nat) p,c[i]? =some p->RP w Im p (vs i)):
   RA w H ι Im (.mR c o) (.pointer (some ⟨b,off+o,none⟩))
 |aT (a:Addr):RA w H ι Im .aT (.slice (some a) 0 0)
 |map (β:Nat) (es:List (PV×PV×Nat)) (zI:Nat) (hb:H.get β=some (.map es zI)):RA w H ι Im (.map β) (.map (some (ι β).b))
 |lp (f:FuncId) (a b:List AV) (va vb:List Value) (W8:a.length=va.length) (Ti:b.length=vb.length)
   (ha: ∀(i:Nat) x v,a[i]? =some x->va[i]? =some v->RA w H ι Im x v)
   (hb: ∀(i:Nat) x v,b[i]? =some x->vb[i]? =some v->RA w H ι Im x v):RA w H ι Im (.lp f a b) (.func (.func f) ⟨va⟩ ⟨vb⟩)
 |agg (c:List AV) (vs:List Value) (hl:c.length=vs.length) (hf: ∀x∈c,x.kv=true)
   (h: ∀(i:Nat) x v,c[i]? =some x->vs[i]? =some v->RA w H ι Im x v):RA w H ι Im (.agg c) (.agg ⟨vs⟩)
 |xS (c:List AV) (vs:List Value) (hl:c.length=vs.length)
   (h: ∀(i:Nat) x v,c[i]? =some x->vs[i]? =some v->RA w H ι Im x v):RA w H ι Im (.xS c) (.tuple ⟨vs⟩)
def qC.used:qC->Bool
 | .box _=>true
 | .row qq _ _=> !qq
 | .map _ _=>true
 | .yq _ _=>true
 | .jI qq _ _ _=> !qq
 | .xf=>false
def qC.Tt:qC->Bool
 | .jI _ _ _ _=>true
 |_=>false
def qC.vn(b:qC)(p:Pl)(x:Nat):Prop:=b.used=true/\(x=p.b\/b.Tt=true/\x∈p.ks.flatMap Sk.blocks)
def pE(w:World)(H:qn)(ι:vG)(Im:Nat->Prop)(β:Nat):qC->Prop
 | .box c=> ∃vs elem fz,w.heap[(ι β).b]? =some (.cells vs elem fz)/\wa fz vs.size/\c.length=vs.size/\
   (∀ x∈c,x.kv=true)/\ ∀(i:Nat) x v,c[i]? =some x->vs[i]? =some v->RA w H ι Im x v
 | .row true _ es=>es=[]
 | .row false sz es=> ∃vs elem fz,w.heap[(ι β).b]? =some (.cells vs elem fz)/\wa fz vs.size/\vs.size=(ι β).cap*sz/\0<sz/\
   es.length<=(ι β).cap/\(∀ e∈es,e.length=sz)/\(∀(i:Nat) e(j:Nat) p,es[i]? =some e->e[j]? =some p->p.kv=true)/\
   ∀(i:Nat) e(j:Nat) p,es[i]? =some e->e[j]? =some p-> ∃v,vs[i*sz+j]? =some v/\RP w Im p v
 | .map es zI=> ∃zO:List MapEntry,w.heap[(ι β).b]? =some (.map ⟨zO⟩ zI)/\es.length=zO.length/\
   ∀(i:Nat)(k x:PV)(born:Nat) e,es[i]? =some (k,x,born)->zO[i]? =some e->RP w Im k e.key/\RP w Im x e.val/\e.born=born
 | .yq sz es=> ∃vs elem fz,w.heap[(ι β).b]? =some (.cells vs elem fz)/\wa fz vs.size/\vs.size=(ι β).cap*sz/\0<sz/\
   es.length<=(ι β).cap/\(∀ e∈es,e.length=sz)/\(∀(i:Nat) e(j:Nat) x,es[i]? =some e->e[j]? =some x->x.kv=true)/\
   ∀(i:Nat) e(j:Nat) x,es[i]? =some e->e[j]? =some x-> ∃v,vs[i*sz+j]? =some v/\RA w H ι Im x v
 | .jI true _ es i5=>es=[]/\i5=none
 | .jI false ds es i5=> ∃vs elem fz,w.heap[(ι β).b]? =some (.cells vs elem fz)/\wa fz vs.size/\vs.size=(ι β).cap/\es.length<=(ι β).cap/\(ι β).ks.length=es.length/\
   ((ι β).b::(ι β).ks.flatMap Sk.blocks).Nodup/\(∀ x∈(ι β).ks.flatMap Sk.blocks,x<w.heap.size)/\(∀ j γ zF,i5=some (j,γ,zF)->j<es.length)/\
   ∀(i:Nat) p k,es[i]? =some p->(ι β).ks[i]? =some k-> ∃v,vs[i]? =some v/\
    ((∀ j γ zF,i5=some (j,γ,zF)->i≠j)->eW w Im ds p v k)/\(∀ γ zF,i5=some (i,γ,zF)->k= .leaf/\RA w H ι Im (.row γ zF 0 zF) v)
 | .xf=>True
class zN where
 ok:World->Prop
 on:Nat->Prop
 frame: ∀{w w' :World},ok w->(∀ b,on b->w'.heap[b]? =w.heap[b]?)->ok w'
instance(priority:=low) noGlobs:zN:=⟨fun _=>True,fun _=>False,fun _ _=>trivial⟩
structure qW [zN] (w:World) (H:qn) (ι:vG) (Im:Nat->Prop):Prop where
 mW: ∀β b,H.get β=some b->pE w H ι Im β b
 inj: ∀β β' b b' x,H.get β=some b->H.get β' =some b' ->b.vn (ι β) x->b'.vn (ι β') x->β=β'
 im: ∀b,Im b->b<w.heap.size
 KH: ∀β b x,H.get β=some b->b.vn (ι β) x-> ¬Im x
 HY:zN.ok w
 W4: ∀b,zN.on b->Im b
theorem zN.go[zN]{w w' :World}{Im:Nat->Prop}(h:zN.ok w)(h2: ∀b,zN.on b->Im b)(hk: ∀b,Im b->w'.heap[b]? =w.heap[b]?):zN.ok w' :=zN.frame h fun b hb=>hk b (h2 b hb)
def xi(x y:qC)(p q:Pl):Prop:=
 match x.sh,y.sh with
 |some (qq,sz,l),some (pL,PA,l')=>l<=l' /\(l=l' ->qq=pL/\(qq=false->sz=PA/\p.ka q))
 |some _,none=>y= .xf
 |none,some _=>False
 |none,none=>match x,y with
  | .box _,.box _=>p=q
  | .map _ _,.map _ _=>p=q
  | .xf,.xf=>True
  |_,_=>False
theorem oa{x y:qC}{p q:Pl}{qq pL:Bool}{sz PA l l' :Nat}(hx:x.sh=some (qq,sz,l))(hy:y.sh=some (pL,PA,l')):
  xi x y p q=(l<=l' /\(l=l' ->qq=pL/\(qq=false->sz=PA/\p.ka q))):=by
 unfold xi;rw[hx,hy]
theorem oc{x y:qC}{p q:Pl}(h:xi x y p q){qq:Bool}{sz l:Nat}(hy:y.sh=some (qq,sz,l)): ∃eu sz0 l0,x.sh=some (eu,sz0,l0):=by
 cases hx:x.sh with
 |some q=>exact⟨_,_,_,rfl⟩
 |none=>
  unfold xi at h;rw[hx,hy]at h;exact(h:False).elim
theorem HJ{x y:qC}{p q:Pl}(h:xi x y p q){qq:Bool}{sz l:Nat}(hx:x.sh=some (qq,sz,l)):y= .xf\/ ∃eu sz0 l0,y.sh=some (eu,sz0,l0):=by
 unfold xi at h;rw[hx]at h;cases hy:y.sh with
 |none=>
  rw[hy]at h;exact .inl h
 |some q=>exact .inr ⟨_,_,_,rfl⟩
structure w8 (w:World) (H:qn) (ι:vG) (Im:Nat->Prop) (w' :World) (H' :qn) (ι' :vG) (jA:Nat->Prop):Prop where
 comp: ∀β b,H.get β=some b-> ∃b',H'.get β=some b' /\xi b b' (ι β) (ι' β)
 im: ∀b,Im b->jA b
 mr: ∀b,jA b->Im b\/w.heap.size<=b\/ ∃β x,H.get β=some x/\x.vn (ι β) b
 bC: ∀β x z,H'.get β=some x->x.vn (ι' β) z->w.heap.size<=z\/ ∃β0 x0,H.get β0=some x0/\x0.vn (ι β0) z
 ka: ∀b,b<w.heap.size->(∀ β x,H.get β=some x-> ¬x.vn (ι β) b)->w'.heap[b]? =w.heap[b]?
 size:w.heap.size<=w'.heap.size
 io:w'.os=w.os/\w'.output=w.output
theorem vV(b:qC)(p:Pl):xi b b p p:=by
 unfold xi;cases h:b.sh with
 |some q=>exact⟨xJ _,fun _=>⟨rfl,fun _=>⟨rfl,p.ot⟩⟩⟩
 |none=>cases b<;>first|(simp only[qC.sh]at h;cases h;done)|rfl|exact trivial
theorem Q6{x y z:qC}{p q r:Pl}(h1:xi x y p q)(h2:xi y z q r):xi x z p r:=by
 have key: ∀{i1 i2 i3:Bool}{s1 s2 s3 l1 l2 l3:Nat},(l1<=l2/\(l1=l2->i1=i2/\(i1=false->s1=s2/\p.ka q)))->(l2<=l3/\(l2=l3->i2=i3/\(i2=false->s2=s3/\q.ka r)))->
   (l1<=l3/\(l1=l3->i1=i3/\(i1=false->s1=s3/\p.ka r))):=by
  intro i1 i2 i3 s1 s2 s3 l1 l2 l3 h1 h2;obtain⟨a1,b1⟩:=h1;obtain⟨a2,b2⟩:=h2;refine⟨Nat.le_trans a1 a2,fun e=>?_⟩;obtain⟨i1,j1⟩:=b1 (by omega);obtain⟨i2,j2⟩:=b2 (by omega);refine⟨i1.trans i2,fun hn=>?_⟩;obtain⟨k1,l1⟩:=j1 hn;obtain⟨k2,l2⟩:=j2 (i1 ▸ hn);exact⟨k1.trans k2,Pl.Pn l1 l2⟩
 unfold xi at h1 h2 |-;cases hx:x.sh with
 |some a=>
  obtain⟨i1,s1,l1⟩:=a;rw[hx]at h1;cases hy:y.sh with
  |some b=>
   obtain⟨i2,s2,l2⟩:=b;rw[hy]at h1 h2;cases hz:z.sh with
   |some c=>
    obtain⟨i3,s3,l3⟩:=c;rw[hz]at h2;exact key h1 h2
   |none=>
    rw[hz]at h2;exact h2
  |none=>
   rw[hy]at h1 h2;have hd:y= .xf:=h1;subst hd;cases hz:z.sh with
   |some c=>rw[hz]at h2;exact(h2:False).elim
   |none=>
    rw[hz]at h2;cases z<;>first|rfl|exact(h2:False).elim
 |none=>
  rw[hx]at h1;cases hy:y.sh with
  |some b=>rw[hy]at h1;exact(h1:False).elim
  |none=>
   rw[hy]at h1 h2;cases hz:z.sh with
   |some c=>rw[hz]at h2;exact(h2:False).elim
   |none=>
    rw[hz]at h2;cases x<;>cases y<;>first|exact(h1:False).elim|(cases z<;>first|exact(h2:False).elim|exact trivial|exact Eq.trans (h1:p=q) (h2:q=r))
theorem w8.refl(w:World)(H:qn)(ι:vG)(Im:Nat->Prop):w8 w H ι Im w H ι Im where
 comp:=fun β b h=>⟨b,h,vV b _⟩
 im:=fun _ h=>h
 mr:=fun _ h=> .inl h
 bC:=fun β x z h hu=> .inr ⟨β,x,h,hu⟩
 ka:=fun _ _ _=>rfl
 size:=xJ _
 io:=⟨rfl,rfl⟩
theorem w8.trans{w w1 w2:World}{H H1 H2:qn}{ι ι1 ι2:vG}{Im aU Uz:Nat->Prop}
  (h1:w8 w H ι Im w1 H1 ι1 aU) (h2:w8 w1 H1 ι1 aU w2 H2 ι2 Uz):w8 w H ι Im w2 H2 ι2 Uz where
 comp:=fun β b h=>by
  obtain⟨b1,g1,c1⟩:=h1.comp β b h;obtain⟨b2,g2,c2⟩:=h2.comp β b1 g1;exact⟨b2,g2,Q6 c1 c2⟩
 im:=fun b h=>h2.im b (h1.im b h)
 mr:=fun b h=>by
  rcases h2.mr b h with h|h|⟨β,x,hx,hu⟩
  ·exact h1.mr b h
  ·exact .inr (.inl (Nat.le_trans h1.size h))
  rcases h1.bC β x b hx hu with h|⟨β0,x0,g,En⟩
  ·exact .inr (.inl h)
  exact .inr (.inr ⟨β0,x0,g,En⟩)
 bC:=fun β x z h hu=>by
  rcases h2.bC β x z h hu with h|⟨β0,x0,g,En⟩
  ·exact .inl (Nat.le_trans h1.size h)
  exact h1.bC β0 x0 z g En
 ka:=fun b hb hn=>by
  have e1:=h1.ka b hb hn;have e2:=h2.ka b (Nat.lt_of_lt_of_le hb h1.size) (fun β x hx hu=>by
   rcases h1.bC β x b hx hu with h|⟨β0,x0,g,En⟩
   ·omega
   exact hn β0 x0 g En)
  exact e2.trans e1
 size:=Nat.le_trans h1.size h2.size
 io:=⟨h2.io.1.trans h1.io.1,h2.io.2.trans h1.io.2⟩
theorem w8.Qm[zN]{w w1:World}{H H1:qn}{ι ι1:vG}{Im aU:Nat->Prop}(hi:qW w H ι Im)
  (h:w8 w H ι Im w1 H1 ι1 aU) (b:Nat) (hb:Im b):w1.heap[b]? =w.heap[b]? :=
 h.ka b (hi.im b hb) fun β x hx hu=>hi.KH β x b hx hu hb
theorem ec{w w1:World}{b:Nat}(h:w1.heap[b]? =w.heap[b]?)(o:Nat):w1.cell? ⟨b,o,none⟩=w.cell? ⟨b,o,none⟩:=by
 simp only[World.cell?,h]
theorem RP.mono{w w' :World}{Im jA:Nat->Prop}(hi: ∀b,Im b->jA b)(hw: ∀b,Im b->w'.heap[b]? =w.heap[b]?)
  {p:PV} {v:Value} (h:RP w Im p v):RP w' jA p v:=by
 induction h with
 |bool b=>exact .bool b
 |int k n=>exact .int k n
 |str l=>exact .str l
 |agg c vs hl hf _ ih=>exact .agg c vs hl hf ih
 |cJ sz=>exact .cJ sz
 |sl sz es b off cap vs oI Xi bO hc hf _ sp Tn ih=>
  refine .sl sz es b off cap vs (fun jv=>hi b (oI jv)) Xi bO (fun i xB=>?_) hf ih sp Tn;have jv:es≠[]:=by
   intro e;subst e;simp at xB
  exact(ec (hw b (oI jv)) _).trans (hc i xB)
 |jk=>exact .jk
 |rX=>exact .rX
 |gG=>exact .gG
 |dT=>exact .dT
 |fn f=>exact .fn f
 |rp c b off vs oI hc hf _ ih=>exact .rp c b off vs (hi b oI) (fun i xB=>(ec (hw b oI) _).trans (hc i xB)) hf ih
theorem RA.mono[zN]{w w' :World}{H H' :qn}{ι ι' :vG}{Im jA:Nat->Prop}(hi:qW w H ι Im)(he:w8 w H ι Im w' H' ι' jA)
  {x:AV} {v:Value} (h:RA w H ι Im x v):RA w' H' ι' jA x v:=by
 have hw: ∀b,Im b->w'.heap[b]? =w.heap[b]? :=fun b hb=>he.Qm hi b hb;induction h with
 |undef v=>exact .undef v
 |pv p v h=>exact .pv p v (h.mono he.im hw)
 |ptr β o b hb hk=>
  obtain⟨b',g,hc⟩:=he.comp β _ hb;cases b<;>simp only[qC.EB,w9]at hk<;>cases b' <;>first|exact(hc:False).elim|(have UA:ι β=ι' β:=hc;rw[UA];exact .ptr β o _ g rfl)
 |yT β zF i o b1 o1 b hb xU h=>
  obtain⟨b',g,hc⟩:=he.comp β _ hb;refine .yT β zF i o b1 o1 b' g ?_ ?_
  ·intro qq sz l e;obtain⟨eu,sz0,l0,e0⟩:=oc hc e;rw[oa e0 e]at hc;exact Nat.le_trans (xU _ _ _ e0) hc.1
  intro qq sz l e hv hn;obtain⟨eu,sz0,l0,e0⟩:=oc hc e;rw[oa e0 e]at hc;have hle:=xU _ _ _ e0;have hl:l0=l:=by omega
  obtain⟨Xl,hs⟩:=hc.2 hl;obtain⟨hs,hp⟩:=hs (by rw[Xl];exact hn);obtain⟨g1,g2⟩:=h eu sz0 l0 e0 (by omega) (by rw[Xl];exact hn);exact⟨by rw[g1,hp.1],by rw[g2,hs]⟩
 |row β zF off n v b ho hb hk xU h=>
  obtain⟨b',g,hc⟩:=he.comp β _ hb;refine .row β zF off n v b' ho g ?_ ?_ ?_
  ·intro hd;by_cases h0:b= .xf
   ·subst h0;cases b' with
    |xf=>exact absurd rfl hd
    |_=>exact(hc:False).elim
   obtain⟨_,_,_,e0⟩:=hk h0;rcases HJ hc e0 with h|h
   ·exact absurd h hd
   exact h
  ·intro qq sz l e;obtain⟨eu,sz0,l0,e0⟩:=oc hc e;rw[oa e0 e]at hc;exact Nat.le_trans (xU _ _ _ e0) hc.1
  intro qq sz l e hv;obtain⟨eu,sz0,l0,e0⟩:=oc hc e;rw[oa e0 e]at hc;have hle:=xU _ _ _ e0;have hl:l0=l:=by omega
  obtain⟨Xl,hs⟩:=hc.2 hl;obtain⟨h1,h2⟩:=h eu sz0 l0 e0 (by omega);refine⟨by omega, ?_⟩;cases hn:qq
  ·obtain⟨hs,hp⟩:=hs (by rw[Xl];exact hn);rw[Xl,hn]at h2;rw[<- hp.1,<- hp.2,<- hs];exact h2
  rw[Xl,hn]at h2;exact h2
 |mR c o b off vs oI hc hf h=>
  exact .mR c o b off vs (he.im b oI) (fun i xB=>(ec (hw b oI) _).trans (hc i xB)) hf fun i p hp=>(h i p hp).mono he.im hw
 |aT a=>exact .aT a
 |map β es zI hb=>
  obtain⟨b',g,hc⟩:=he.comp β _ hb;cases b' <;>first|exact(hc:False).elim|(have UA:ι β=ι' β:=hc;rw[UA];exact .map β _ _ g)
 |lp f a b va vb W8 Ti _ _ iha ihb=>exact .lp f a b va vb W8 Ti iha ihb
 |agg c vs hl hf _ ih=>exact .agg c vs hl hf ih
 |xS c vs hl _ ih=>exact .xS c vs hl ih
def Xv(P:Program):TypeDesc->Option TD
 | .struct fs=>some (.struct (fs.toList.map fun f=>(f.offset,P.cellsOf f.type,f.type)))
 | .array n e=>some (.array n e)
 | .slice e=>some (.slice e)
 | .map k e=>some (.map k e)
 | .bool=>some .bool
 | .int k=>some (.int k)
 | .string=>some .string
 | .pointer _=>some .ptr
 | .func _ _ _=>some .func
 | .interface _| .tuple _=>some .other
 |_=>none
def pd(P:Program):Nat->List Field->Bool
 |_,[]=>true
 |i,f::r=>f.name != "_" &&f.offset==i&&pd P (i+P.cellsOf f.type) r
def eqok(P:Program)(t:TypeId):Bool:=
 match P.underlying t with
 |some (.struct fs)=> !P.stoodInHeld t&& !P.eqGuardType P.depth t&&pd P 0 fs.toList
 |_=>false
def lA:Value->Bool
 | .agg _=>true
 |_=>false
def TD.isAgg:TD->Bool
 | .struct _| .array _ _=>true
 |_=>false
def iC(P:Program)(t:TypeId):Bool:=
 match P.underlying t with
 |some (.struct fs)=>fs.toList.all fun f=>(P.info? f.type).isSome
 |_=>true
def TQ(P:Program)(t:TypeId):Option TypeId:=match P.underlying t with|some (.pointer e)=>some e|_=>none
def tiOf(P:Program)(t:TypeId):Option TI:=
 match P.info? t,P.underlying t with
 |some i,some d=>match Xv P d,i.zero with
  |some td,some z=>match aa z.cells.toList with
   |some l=>if l.length=i.size/\lA z=td.isAgg/\(l.all PV.kv)=true/\iC P t=true then some ⟨i.size,i.bytes,td,l,eqok P t,TQ P t⟩else none
   |none=>none
  |_,_=>none
 |_,_=>none
structure zx (P:Program) (t:TypeId) (ti:TI):Prop where
 info: ∃i z,P.info? t=some i/\i.size=ti.size/\i.bytes=ti.bytes/\i.zero=some z/\aa z.cells.toList=some ti.zero/\lA z=ti.td.isAgg
 len:ti.zero.length=ti.size
 kv: ∀p∈ti.zero,p.kv=true
 L7: ∃d,P.underlying t=some d/\Xv P d=some ti.td
 known:iC P t=true
 eqk:ti.eq=eqok P t
 pek:ti.pe=TQ P t
theorem tiOf_ok{P:Program}{t:TypeId}{ti:TI}(h:tiOf P t=some ti):zx P t ti:=by
 unfold tiOf at h;split at h<;>try cases h
 rename_i i d hi hd;split at h<;>try cases h
 rename_i td z xr hz;split at h<;>try cases h
 rename_i l hl;split at h<;>try cases h
 rename_i hc;obtain⟨h1,h2,h3,h4⟩:=hc;exact⟨⟨i,z,hi,rfl,rfl,hz,hl,h2⟩,h1,by simpa using h3,⟨d,hd,xr⟩,h4,rfl,rfl⟩
theorem qn.qZ(H:qn)(β γ:Nat)(y:qC):(H.put β y).get γ=if γ=β then some y else H.get γ:=by
 induction H with
 |nil=>simp only[qn.put,qn.get];by_cases h:β=γ<;>simp[h,eq_comm]
 |cons x r ih=>
  obtain⟨i,v⟩:=x;simp only[qn.put];by_cases h:i=β
  ·subst h;simp only[if_true,qn.get];by_cases h2:i=γ
   ·simp[h2]
   simp[h2,Ne.symm h2]
  simp only[h,if_false,qn.get,ih];by_cases h2:i=γ
  ·subst h2;simp[h]
  simp[h2]
def jj(ι:vG)(β:Nat)(p:Pl):vG:=fun γ=>if γ=β then p else ι γ
@[simp] theorem jT (ι:vG) (β:Nat) (p:Pl):jj ι β p β=p:=by simp[jj]
theorem nS(ι:vG){β γ:Nat}(p:Pl)(h:γ≠β):jj ι β p γ=ι γ:=by simp[jj,h]
theorem eW.mono{w w' :World}{Im jA:Nat->Prop}(hi: ∀b,Im b->jA b)(hw: ∀b,Im b->w'.heap[b]? =w.heap[b]?){ds:List Nat}{p:PV}{v:Value}{k:Sk}(h:eW w Im ds p v k):
  (∀ x∈k.blocks,w'.heap[x]? =w.heap[x]?)->eW w' jA ds p v k:=by
 induction h with
 |Kk p v hs h=>exact fun _=> .Kk p v hs (h.mono hi hw)
 |nil d ds=>exact fun _=> .nil d ds
 |sl d ds es b o cap ks vs elem fz hb hfz DP hd hle ho rR G3 val Xn _ ih=>
  intro hk;refine .sl d ds es b o cap ks vs elem fz (by rw[hk b (by simp[Sk.blocks])];exact hb) hfz DP hd hle ho rR G3 val Xn fun i p k a c=>ih i p k a c fun x hx=>hk x ?_;simp only[Sk.blocks,List.mem_cons,List.mem_flatMap];exact .inr ⟨k,qX c,hx⟩
theorem pE.mono[zN]{w w' :World}{H H' :qn}{ι ι' :vG}{Im jA:Nat->Prop}(hi:qW w H ι Im)(he:w8 w H ι Im w' H' ι' jA)
  {β:Nat} {b:qC} (hp:b.used=true->ι' β=ι β/\ ∀x,b.vn (ι β) x->w'.heap[x]? =w.heap[x]?) (h:pE w H ι Im β b):pE w' H' ι' jA β b:=by
 have hw: ∀b,Im b->w'.heap[b]? =w.heap[b]? :=fun b hb=>he.Qm hi b hb;cases b with
 |box c=>
  obtain⟨e1,e2⟩:=hp rfl;have e2:=e2 _ ⟨rfl,.inl rfl⟩;obtain⟨vs,elem,fz,h1,h2,h3,h4,h5⟩:=h;exact⟨vs,elem,fz,by rw[e1,e2];exact h1,h2,h3,h4,fun i x v a b=>(h5 i x v a b).mono hi he⟩
 |row qq sz es=>
  cases qq with
  |true=>exact h
  |false=>
   obtain⟨e1,e2⟩:=hp rfl;have e2:=e2 _ ⟨rfl,.inl rfl⟩;obtain⟨vs,elem,fz,h1,h2,h3,h4,h5,h6,h7,h8⟩:=h;refine⟨vs,elem,fz,by rw[e1,e2];exact h1,h2,by rw[e1];exact h3,h4,by rw[e1];exact h5,h6,h7,fun i e j p a b=>?_⟩;obtain⟨v,g1,g2⟩:=h8 i e j p a b;exact⟨v,g1,g2.mono he.im hw⟩
 |map es zI=>
  obtain⟨e1,e2⟩:=hp rfl;have e2:=e2 _ ⟨rfl,.inl rfl⟩;obtain⟨zO,h1,h2,h3⟩:=h;refine⟨zO,by rw[e1,e2];exact h1,h2,fun i k x born e a b=>?_⟩;obtain⟨g1,g2,g3⟩:=h3 i k x born e a b;exact⟨g1.mono he.im hw,g2.mono he.im hw,g3⟩
 |yq sz es=>
  obtain⟨e1,e2⟩:=hp rfl;have e2:=e2 _ ⟨rfl,.inl rfl⟩;obtain⟨vs,elem,fz,h1,h2,h3,h4,h5,h6,h7,h8⟩:=h;refine⟨vs,elem,fz,by rw[e1,e2];exact h1,h2,by rw[e1];exact h3,h4,by rw[e1];exact h5,h6,h7,fun i e j x a b=>?_⟩;obtain⟨v,g1,g2⟩:=h8 i e j x a b;exact⟨v,g1,g2.mono hi he⟩
 |jI qq ds es i5=>
  cases qq with
  |true=>exact h
  |false=>
   obtain⟨e1,e2⟩:=hp rfl;obtain⟨vs,elem,fz,h1,h2,h3,h4,h5,h6,h7,h8,h9⟩:=h;refine⟨vs,elem,fz,by rw[e1,e2 _ ⟨rfl,.inl rfl⟩];exact h1,h2,by rw[e1];exact h3,by rw[e1];exact h4,by rw[e1];exact h5,by rw[e1];exact h6,fun x hx=>Nat.lt_of_lt_of_le (h7 x (by rw[<- e1];exact hx)) he.size,h8,fun i p k a b=>?_⟩;rw[e1]at b;obtain⟨v,g1,g2,g3⟩:=h9 i p k a b;exact⟨v,g1,fun hj=>(g2 hj).mono he.im hw fun x hx=>e2 x ⟨rfl,.inr ⟨rfl,List.mem_flatMap.mpr ⟨k,qX b,hx⟩⟩⟩,fun γ zF hf=>⟨(g3 γ zF hf).1,(g3 γ zF hf).2.mono hi he⟩⟩
 |xf=>trivial
theorem pE.lt{w:World}{H:qn}{ι:vG}{Im:Nat->Prop}{β:Nat}{b:qC}(h:pE w H ι Im β b)(hu:b.used=true):(ι β).b<w.heap.size:=by
 have key: ∀o,w.heap[(ι β).b]? =some o->(ι β).b<w.heap.size:=fun o ho=>by
  rcases Nat.lt_or_ge (ι β).b w.heap.size with xB|hge
  ·exact xB
  simp[Array.getElem?_eq_none hge]at ho
 cases b with
 |box c=>obtain⟨vs,elem,fz,h1,_⟩:=h;exact key _ h1
 |row qq sz es=>
  cases qq with
  |true=>cases hu
  |false=>obtain⟨vs,elem,fz,h1,_⟩:=h;exact key _ h1
 |map es zI=>obtain⟨zO,h1,_⟩:=h;exact key _ h1
 |yq sz es=>obtain⟨vs,elem,fz,h1,_⟩:=h;exact key _ h1
 |jI qq ds es i5=>
  cases qq with
  |true=>cases hu
  |false=>obtain⟨vs,elem,fz,h1,_⟩:=h;exact key _ h1
 |xf=>cases hu
theorem pE.rC{w:World}{H:qn}{ι:vG}{Im:Nat->Prop}{β:Nat}{b:qC}{x:Nat}(h:pE w H ι Im β b)(hu:b.vn (ι β) x):x<w.heap.size:=by
 rcases hu.2 with rfl|⟨ho,hx⟩
 ·exact h.lt hu.1
 cases b<;>simp only[qC.Tt,w9]at ho;rename_i qq ds es i5;cases qq with
 |true=>exact absurd hu.1 (by simp[qC.used])
 |false=>
  obtain⟨vs,elem,fz,h1,h2,h3,h4,h5,h6,h7,h8⟩:=h;exact h7 x hx
theorem qC.foot_of{b:qC}{p:Pl}{x:Nat}(hb:b.Tt=false)(h:b.vn p x):x=p.b:=by
 rcases h.2 with h|⟨h,_⟩
 ·exact h
 rw[hb]at h;cases h
theorem qW.ML[zN]{w w' :World}{H:qn}{ι:vG}{Im:Nat->Prop}(hi:qW w H ι Im)(β:Nat)(y:qC)(p:Pl)
  (hold: ∀x,H.get β=some x->xi x y (ι β) p) (bO:w.heap.size<=w'.heap.size/\w'.os=w.os/\w'.output=w.output)
  (ZM: ∀b,b<w.heap.size->(∀ x,H.get β=some x-> ¬x.vn (ι β) b)->w'.heap[b]? =w.heap[b]?)
  (sH: ∀z,y.vn p z->w.heap.size<=z\/ ∃x,H.get β=some x/\x.vn (ι β) z)
  (eY:w8 w H ι Im w' (H.put β y) (jj ι β p) Im->pE w' (H.put β y) (jj ι β p) Im β y):
  qW w' (H.put β y) (jj ι β p) Im/\w8 w H ι Im w' (H.put β y) (jj ι β p) Im:=by
 have he:w8 w H ι Im w' (H.put β y) (jj ι β p) Im:=by
  refine⟨fun γ b hb=>?_,fun _ h=>h,fun _ h=> .inl h,fun γ x z hx hu=>?_,fun b hb hn=>?_,bO.1,bO.2⟩
  ·by_cases hγ:γ=β
   ·subst hγ;exact⟨y,by simp[qn.qZ],by simpa using hold b hb⟩
   exact⟨b,by simp[qn.qZ,hγ,hb],by rw[nS ι p hγ];exact vV b _⟩
  ·by_cases hγ:γ=β
   ·subst hγ;simp only[qn.qZ,if_true,kX]at hx;subst hx;rw[jT]at hu;rcases sH z hu with h|⟨x,g1,g2⟩
    ·exact .inl h
    exact .inr ⟨γ,x,g1,g2⟩
   simp only[qn.qZ,hγ,if_false]at hx;rw[nS ι p hγ]at hu;exact .inr ⟨γ,x,hx,hu⟩
  exact ZM b hb fun x hx hu=>hn β x hx hu
 refine⟨⟨fun γ b hb=>?_,fun γ γ' b b' z hb xQ hu hu' =>?_,fun b hb=>Nat.lt_of_lt_of_le (hi.im b hb) bO.1,fun γ b z hb hu=>?_, ?_, ?_⟩,he⟩
 ·by_cases hγ:γ=β
  ·subst hγ;simp only[qn.qZ,if_true,kX]at hb;subst hb;exact eY he
  simp only[qn.qZ,hγ,if_false]at hb;refine(hi.mW γ b hb).mono hi he (fun hu=>⟨nS ι p hγ,fun x hx=>?_⟩);exact ZM _ ((hi.mW γ b hb).rC hx) fun x0 hx0 C0=>hγ (hi.inj γ β b x0 x hb hx0 hx C0)
 ·have fresh: ∀δ d,δ≠β->H.get δ=some d->d.vn (ι δ) z->y.vn p z->False:=by
   intro δ d hδ hd hud huy;rcases sH z huy with h|⟨x,g1,g2⟩
   ·have:=(hi.mW δ d hd).rC hud;omega
   exact hδ (hi.inj δ β d x z hd g1 hud g2)
  by_cases hγ:γ=β<;>by_cases hγ' :γ' =β
  ·rw[hγ,hγ']
  ·subst hγ;simp only[qn.qZ,if_true,kX,hγ',if_false]at hb xQ;subst hb;rw[jT]at hu;rw[nS ι p hγ']at hu';exact(fresh γ' b' hγ' xQ hu' hu).elim
  ·subst hγ';simp only[qn.qZ,if_true,kX,hγ,if_false]at hb xQ;subst xQ;rw[jT]at hu';rw[nS ι p hγ]at hu;exact(fresh γ b hγ hb hu hu').elim
  simp only[qn.qZ,hγ,hγ',if_false]at hb xQ;rw[nS ι p hγ]at hu;rw[nS ι p hγ']at hu';exact hi.inj γ γ' b b' z hb xQ hu hu'
 ·by_cases hγ:γ=β
  ·subst hγ;simp only[qn.qZ,if_true,kX]at hb;subst hb;rw[jT]at hu;rcases sH z hu with h|⟨x,g1,g2⟩
   ·intro hIm;have:=hi.im _ hIm;omega
   exact hi.KH γ x z g1 g2
  simp only[qn.qZ,hγ,if_false]at hb;rw[nS ι p hγ]at hu;exact hi.KH γ b z hb hu
 ·exact zN.go hi.HY hi.W4 fun b hb=>he.Qm hi b hb
 exact hi.W4
theorem TG{H:qn}{β:Nat}{x0:qC}(h:H.get β=some x0)(h0:x0.Tt=false): ∀x,H.get β=some x->x.Tt=false:=fun x hx=>by
 rw[h]at hx;cases hx;exact h0
theorem GC{H:qn}{β:Nat}(h:H.get β=none): ∀x,H.get β=some x->x.Tt=false:=fun x hx=>by
 rw[h]at hx;cases hx
theorem qW.put[zN]{w w' :World}{H:qn}{ι:vG}{Im:Nat->Prop}(hi:qW w H ι Im)(β:Nat)(y:qC)(p:Pl)
  (hold: ∀x,H.get β=some x->xi x y (ι β) p) (bO:w.heap.size<=w'.heap.size/\w'.os=w.os/\w'.output=w.output)
  (ZM: ∀b,b<w.heap.size->(∀ x,H.get β=some x->x.used=true->(ι β).b≠b)->w'.heap[b]? =w.heap[b]?)
  (sH:y.used=true->w.heap.size<=p.b\/ ∃x,H.get β=some x/\x.used=true/\(ι β).b=p.b)
  (eY:w8 w H ι Im w' (H.put β y) (jj ι β p) Im->pE w' (H.put β y) (jj ι β p) Im β y)
  (Qf: ∀x,H.get β=some x->x.Tt=false:=by first|(apply TG;assumption;rfl)|(apply GC;assumption)) (hy:y.Tt=false:=by rfl):
  qW w' (H.put β y) (jj ι β p) Im/\w8 w H ι Im w' (H.put β y) (jj ι β p) Im:=by
 refine qW.ML hi β y p hold bO (fun b hb hn=>ZM b hb fun x hx hu e=>hn x hx ⟨hu,.inl e.symm⟩) (fun z hz=>?_) eY;rw[qC.foot_of hy hz];rcases sH hz.1 with h|⟨x,g1,g2,g3⟩
 ·exact .inl h
 exact .inr ⟨x,g1,g2,.inl g3.symm⟩
section
variable [zN] {P:Program} {w:World} {H:qn} {ι:vG} {Im:Nat->Prop}
theorem TU{v:Value}{p:PV}(h:Iy v=some p):RP w Im p v/\p.kv=true/\v.cells= #[v]:=by
 unfold Iy at h;split at h<;>cases h
 ·exact⟨.bool _,rfl,rfl⟩
 ·exact⟨.int _ _,rfl,rfl⟩
 ·exact⟨.str _,rfl,rfl⟩
 ·exact⟨.jk,rfl,rfl⟩
 ·exact⟨.cJ _,rfl,rfl⟩
 ·exact⟨.gG,rfl,rfl⟩
 ·exact⟨.rX,rfl,rfl⟩
 ·exact⟨.dT,rfl,rfl⟩
 exact⟨.fn _,rfl,rfl⟩
theorem QB: ∀{vs:List Value}{l:List PV},aa vs=some l->
  l.length=vs.length/\(∀ p∈l,p.kv=true)/\ ∀(i:Nat) p v,l[i]? =some p->vs[i]? =some v->RP w Im p v
 |[],l,h=>by
  simp only[aa,kX]at h;subst h;simp
 |v::r,l,h=>by
  simp only[aa]at h;split at h<;>cases h;rename_i p l' hp hl;obtain⟨h1,h2,h3⟩:=QB hl;obtain⟨g1,g2,_⟩:=TU (w:=w) (Im:=Im) hp;refine⟨by simp[h1],by simpa using⟨g2,h2⟩,fun i q u hq hu=>?_⟩;cases i with
  |zero=>simp at hq hu;subst hq hu;exact g1
  |succ i=>simp at hq hu;exact h3 i q u hq hu
theorem avOf_ok(v:Value):RA w H ι Im (avOf v) v:=by
 unfold avOf;split
 ·split
  ·rename_i cs _ l hl;obtain⟨h1,h2,h3⟩:=QB (w:=w) (Im:=Im) hl;exact .pv _ _ (.agg l cs h1 h2 h3)
  exact .undef _
 ·exact .xS [] [] rfl (by simp)
 split
 ·rename_i p hp;exact .pv _ _ (TU hp).1
 exact .undef _
theorem oX{a:Act}{E:vF}(hE: ∀t,RA w H ι Im (E.get t) (a.tmps.getD t undef))(x:Operand):RA w H ι Im (ev E x) (a.eval x):=by
 cases x with
 |tmp t=>exact hE t
 |const v=>exact avOf_ok v
 |global g=>exact .undef _
 |func f=>exact .pv _ _ (.fn f)
theorem add_plain(b o n:Nat):(⟨b,o,none⟩:Addr).add n=⟨b,o+n,none⟩:=by
 unfold Addr.add;split
 ·rename_i h;subst h;rfl
 rfl
theorem ux{b o:Nat}{vs:Array Value}{elem:TypeId}{fz:Nat×Nat}(h:w.heap[b]? =some (.cells vs elem fz)):
  w.cell? ⟨b,o,none⟩=vs[o]? :=by
 simp[World.cell?,h]
theorem qv{t:TypeId}{d:TypeDesc}(h:P.underlying t=some d):(underlying t).run P w= .ok d w:=by
 simp[underlying,h]
theorem uQ{t:TypeId}{i:TypeInfo}(h:P.info? t=some i):(typeInfo t).run P w= .ok i w:=by
 simp[typeInfo,h]
theorem zx.size{t:TypeId}{ti:TI}(h:zx P t ti):(sizeOf t).run P w= .ok ti.size w:=by
 obtain⟨i,z,h1,h2,_⟩:=h.info;simp[sizeOf,uQ h1,h2]
theorem zx.isAgg{t:TypeId}{ti:TI}(h:zx P t ti):(Go.isAgg t).run P w= .ok ti.isAgg w:=by
 obtain⟨d,h1,h2⟩:=h.L7;unfold Go.isAgg;simp only[ji,qv h1,gm];unfold TI.isAgg;generalize ti.td=td at*
 cases d<;>simp[Xv]at h2<;>subst h2<;>rfl
theorem run_loadCellsFrom(b o:Nat)(vs:Nat->Value): ∀(n i:Nat)(acc:Array Value),(∀ j,j<n->w.cell? ⟨b,o+(i+j),none⟩=some (vs (i+j)))->
  (loadCellsFrom ⟨b,o,none⟩ i n acc).run P w= .ok (acc++((List.range n).map fun j=>vs (i+j)).toArray) w
 |0,i,acc,_=>by simp[loadCellsFrom]
 |n+1,i,acc,h=>by
  have h0:=h 0 (by omega);simp only[Nat.add_zero]at h0;have ih:=run_loadCellsFrom b o vs n (i+1) (acc.push (vs i)) (fun j hj=>by
   have:=h (j+1) (by omega)
   rwa[show i+(j+1)=i+1+j from by omega]at this)
  simp only[loadCellsFrom,add_plain,ji,run_load,h0,gm,ih];congr 1;apply Array.ext';simp[List.range_succ_eq_map,Function.comp_def,Nat.add_assoc,Nat.add_comm 1]
theorem run_loadCells(b o n:Nat)(vs:Nat->Value)(h: ∀j,j<n->w.cell? ⟨b,o+j,none⟩=some (vs j)):
  (loadCells ⟨b,o,none⟩ n).run P w= .ok ((List.range n).map vs).toArray w:=by
 unfold loadCells;rw[run_loadCellsFrom b o vs n 0 #[] (fun j hj=>by simpa using h j hj)];simp
theorem e9: ∀{c:List AV}{l:List PV},ip c=some l->c=l.map .pv
 |[],l,h=>by simp[ip]at h;subst h;rfl
 |x::r,l,h=>by
  cases x<;>simp only[ip]at h<;>try cases h
  split at h<;>cases h;rename_i l' hl;simp[e9 hl]
theorem iN{c:List AV}{vs:List Value}(hl:c.length=vs.length)(hf: ∀x∈c,x.kv=true)
  (h: ∀(i:Nat) x v,c[i]? =some x->vs[i]? =some v->RA w H ι Im x v):RA w H ι Im (ZQ c) (.agg ⟨vs⟩):=by
 unfold ZQ;split
 ·rename_i l hp;have:=e9 hp;subst this;refine .pv _ _ (.agg l vs (by simpa using hl) (fun p hp=>?_) fun i p v h1 h2=>?_)
  ·have:=hf (.pv p) (by simp[hp]);simpa[AV.kv]using this
  have:=h i (.pv p) v (by simp[h1]) h2;cases this;assumption
 exact .agg c vs hl hf h
theorem Md{t:TypeId}{ti:TI}(ht:zx P t ti)(b o:Nat)(c:List AV)(vs:Nat->Value)
  (hc: ∀i,i<c.length->w.cell? ⟨b,o+i,none⟩=some (vs i)) (hf: ∀x∈c,x.kv=true)
  (h: ∀(i:Nat) x,c[i]? =some x->RA w H ι Im x (vs i)) {r:AV} (hr:DU ti c=some r):
  ∃u,(loadVar t ⟨b,o,none⟩).run P w= .ok u w/\RA w H ι Im r u:=by
 unfold DU at hr;unfold loadVar;simp only[ji,ht.isAgg,gm];by_cases ha:ti.isAgg=true
 ·simp only[ha,if_true]at hr |-;split at hr<;>cases hr;rename_i hlen;refine⟨.agg ⟨(List.range ti.size).map vs⟩, ?_,iN (by simp;omega) (fun x hx=>hf x (List.mem_of_mem_take hx)) ?_⟩
  ·simp only[ji,ht.size,gm,run_loadCells b o ti.size vs (fun j hj=>hc j (by omega)),Sem.run_pure]
  intro i x v h1 h2;simp only[List.getElem?_map,yi]at h2;obtain⟨j,hj,rfl⟩:=h2;by_cases hi:i<ti.size
  ·simp[hi]at hj;subst hj;rw[List.getElem?_take_of_lt hi]at h1;exact h i x h1
  simp[hi]at hj
 simp only[ha,w9,if_false]at hr |-;cases c with
 |nil=>cases hr
 |cons x r' =>
  simp only[kX]at hr;have h0:=hc 0 (by simp);simp only[Nat.add_zero]at h0;refine⟨vs 0,by simp[h0],hr ▸ h 0 x (by simp)⟩
theorem Me{t:TypeId}{ti:TI}(ht:zx P t ti)(b o:Nat)(c:List PV)(vs:Nat->Value)
  (hc: ∀i,i<c.length->w.cell? ⟨b,o+i,none⟩=some (vs i)) (hf: ∀x∈c,x.kv=true)
  (h: ∀(i:Nat) x,c[i]? =some x->RP w Im x (vs i)) {r:AV} (hr:ldP ti c=some r):
  ∃u,(loadVar t ⟨b,o,none⟩).run P w= .ok u w/\RA w H ι Im r u:=by
 unfold ldP at hr;unfold loadVar;simp only[ji,ht.isAgg,gm];by_cases ha:ti.isAgg=true
 ·simp only[ha,if_true]at hr |-;split at hr<;>cases hr;rename_i hlen;refine⟨.agg ⟨(List.range ti.size).map vs⟩, ?_,.pv _ _ (.agg _ _ (by simp;omega) (fun x hx=>hf x (List.mem_of_mem_take hx)) ?_)⟩
  ·simp only[ji,ht.size,gm,run_loadCells b o ti.size vs (fun j hj=>hc j (by omega)),Sem.run_pure]
  intro i x v h1 h2;simp only[List.getElem?_map,yi]at h2;obtain⟨j,hj,rfl⟩:=h2;by_cases hi:i<ti.size
  ·simp[hi]at hj;subst hj;rw[List.getElem?_take_of_lt hi]at h1;exact h i x h1
  simp[hi]at hj
 simp only[ha,w9,if_false]at hr |-;cases c with
 |nil=>cases hr
 |cons x r' =>
  simp only[kX]at hr;have h0:=hc 0 (by simp);simp only[Nat.add_zero]at h0;refine⟨vs 0,by simp[h0],hr ▸ .pv _ _ (h 0 x (by simp))⟩
end
section
variable [zN] {P:Program} {w:World} {H:qn} {ι:vG} {Im:Nat->Prop}
theorem qW.box{β:Nat}{c:List AV}(hi:qW w H ι Im)(hb:H.get β=some (.box c)):
  ∃vs elem fz,w.heap[(ι β).b]? =some (.cells vs elem fz)/\wa fz vs.size/\c.length=vs.size/\
   (∀ x∈c,x.kv=true)/\ ∀(i:Nat) x v,c[i]? =some x->vs[i]? =some v->RA w H ι Im x v:=hi.mW β _ hb
theorem qW.row{β sz:Nat}{es:List (List PV)}(hi:qW w H ι Im)(hb:H.get β=some (.row false sz es)):
  ∃vs elem fz,w.heap[(ι β).b]? =some (.cells vs elem fz)/\wa fz vs.size/\vs.size=(ι β).cap*sz/\0<sz/\
   es.length<=(ι β).cap/\(∀ e∈es,e.length=sz)/\(∀(i:Nat) e(j:Nat) p,es[i]? =some e->e[j]? =some p->p.kv=true)/\
   ∀(i:Nat) e(j:Nat) p,es[i]? =some e->e[j]? =some p-> ∃v,vs[i*sz+j]? =some v/\RP w Im p v:=hi.mW β _ hb
theorem qW.yq{β sz:Nat}{es:List (List AV)}(hi:qW w H ι Im)(hb:H.get β=some (.yq sz es)):
  ∃vs elem fz,w.heap[(ι β).b]? =some (.cells vs elem fz)/\wa fz vs.size/\vs.size=(ι β).cap*sz/\0<sz/\
   es.length<=(ι β).cap/\(∀ e∈es,e.length=sz)/\(∀(i:Nat) e(j:Nat) x,es[i]? =some e->e[j]? =some x->x.kv=true)/\
   ∀(i:Nat) e(j:Nat) x,es[i]? =some e->e[j]? =some x-> ∃v,vs[i*sz+j]? =some v/\RA w H ι Im x v:=hi.mW β _ hb
theorem qW.jI{β:Nat}{ds:List Nat}{es:List PV}{i5:Option (Nat×Nat×Nat)}(hi:qW w H ι Im)(hb:H.get β=some (.jI false ds es i5)):
  ∃vs elem fz,w.heap[(ι β).b]? =some (.cells vs elem fz)/\wa fz vs.size/\vs.size=(ι β).cap/\es.length<=(ι β).cap/\(ι β).ks.length=es.length/\
   ((ι β).b::(ι β).ks.flatMap Sk.blocks).Nodup/\(∀ x∈(ι β).ks.flatMap Sk.blocks,x<w.heap.size)/\(∀ j γ zF,i5=some (j,γ,zF)->j<es.length)/\
   ∀(i:Nat) p k,es[i]? =some p->(ι β).ks[i]? =some k-> ∃v,vs[i]? =some v/\
    ((∀ j γ zF,i5=some (j,γ,zF)->i≠j)->eW w Im ds p v k)/\(∀ γ zF,i5=some (i,γ,zF)->k= .leaf/\RA w H ι Im (.row γ zF 0 zF) v):=hi.mW β _ hb
theorem tX(t:TypeId)(a:Addr):(Instr.loadAt t (.pointer (some a))).run P w=(loadVar t a).run P w:=by
 unfold Instr.loadAt Instr.sureAddr;simp
theorem mem_of_getElem?{α:Type}{l:List α}{i:Nat}{x:α}(h:l[i]? =some x):x∈l:=qX h
theorem Hm{t:TypeId}{ti:TI}(ht:zx P t ti)(hi:qW w H ι Im){x:AV}{v:Value}(hx:RA w H ι Im x v)
  {r:AV} (hr:oO ti x H=some r): ∃u,(Instr.loadAt t v).run P w= .ok u w/\RA w H ι Im r u:=by
 unfold oO at hr;split at hr
 ·rename_i β o;split at hr<;>try cases hr
  rename_i c hb;cases hx;obtain⟨vs,elem,fz,h1,h2,h3,h4,h5⟩:=hi.box hb;rw[tX];refine Md ht _ o (c.drop o) (fun i=>(vs[o+i]?).getD undef) (fun i xB=>?_) (fun x hx=>h4 x (List.mem_of_mem_drop hx)) (fun i x hx=>?_) hr
  ·rw[ux h1];have:o+i<vs.size:=by simp at xB;omega
   simp[this]
  rw[List.getElem?_drop]at hx;have xB:o+i<vs.size:=by
   have:=(qF hx).1;omega
  exact h5 (o+i) x _ hx (by simp[xB])
 ·rename_i β zF i o;split at hr<;>try cases hr
  ·rename_i sz es hb;split at hr<;>try cases hr
   rename_i xU;split at hr<;>try cases hr
   rename_i e he;have hvv:v= .pointer (some ⟨(ι β).b,i*sz+o,none⟩):=by
    cases hx with
    |yT _ _ _ _ b1 o1 b xQ hv h=>
     rw[hb]at xQ;cases xQ;obtain⟨rfl,rfl⟩:=h _ _ _ rfl xU rfl;rfl
   subst hvv;obtain⟨vs,elem,fz,h1,h2,h3,h4,h5,h6,h7,h8⟩:=hi.row hb;rw[tX];refine Me ht _ (i*sz+o) (e.drop o) (fun j=>(vs[i*sz+o+j]?).getD undef) (fun j xB=>?_) (fun x hx=>?_) (fun j p hp=>?_) hr
   ·rw[ux h1];obtain⟨p,hp⟩: ∃p,e[o+j]? =some p:=by
     simp at xB;exact⟨e[o+j]'(by omega),by simp⟩
    obtain⟨v,g1,_⟩:=h8 i e (o+j) p he hp;rw[Nat.add_assoc,g1];rfl
   ·obtain⟨j,hj⟩:=jz (List.mem_of_mem_drop hx);exact h7 i e j x he hj
   rw[List.getElem?_drop]at hp;obtain⟨v,g1,g2⟩:=h8 i e (o+j) p he hp;simp only[Nat.add_assoc,g1,Option.getD_some];exact g2
  ·rename_i sz es hb;split at hr<;>try cases hr
   rename_i xU;split at hr<;>try cases hr
   rename_i e he;have hvv:v= .pointer (some ⟨(ι β).b,i*sz+o,none⟩):=by
    cases hx with
    |yT _ _ _ _ b1 o1 b xQ hv h=>
     rw[hb]at xQ;cases xQ;obtain⟨rfl,rfl⟩:=h _ _ _ rfl xU rfl;rfl
   subst hvv;obtain⟨vs,elem,fz,h1,h2,h3,h4,h5,h6,h7,h8⟩:=hi.yq hb;rw[tX];refine Md ht _ (i*sz+o) (e.drop o) (fun j=>(vs[i*sz+o+j]?).getD undef) (fun j xB=>?_) (fun x hx=>?_) (fun j p hp=>?_) hr
   ·rw[ux h1];obtain⟨p,hp⟩: ∃p,e[o+j]? =some p:=by
     simp at xB;exact⟨e[o+j]'(by omega),by simp⟩
    obtain⟨v,g1,_⟩:=h8 i e (o+j) p he hp;rw[Nat.add_assoc,g1];rfl
   ·obtain⟨j,hj⟩:=jz (List.mem_of_mem_drop hx);exact h7 i e j x he hj
   rw[List.getElem?_drop]at hp;obtain⟨v,g1,g2⟩:=h8 i e (o+j) p he hp;simp only[Nat.add_assoc,g1,Option.getD_some];exact g2
  rename_i ds es j γ fv hb;split at hr<;>try cases hr
  rename_i hc;obtain⟨xU,rfl,rfl⟩:=hc;have hvv:v= .pointer (some ⟨(ι β).b,j*1+0,none⟩):=by
   cases hx with
   |yT _ _ _ _ b1 o1 b xQ hv h=>
    rw[hb]at xQ;cases xQ;obtain⟨rfl,rfl⟩:=h _ _ _ rfl xU rfl;rfl
  subst hvv;obtain⟨vs,elem,fz,h1,h2,h3,h4,h5,h6,h7,h8,h9⟩:=hi.jI hb;have hj:=h8 _ _ _ rfl;obtain⟨v0,g1,_,g3⟩:=h9 j es[j] (ι β).ks[j] (by simp[hj]) (by simp);have g4:=(g3 _ _ rfl).2;rw[tX,show j*1+0=j by omega];refine Md ht _ j [.row γ fv 0 fv] (fun _=>v0) (fun k xB=>?_) (fun x hx=>by simp at hx;subst hx;rfl) (fun k p hp=>?_) hr
  ·rw[ux h1];have:k=0:=by simpa using xB
   subst this;exact g1
  cases k with
  |zero=>simp at hp;subst hp;exact g4
  |succ k=>simp at hp
 ·rename_i c o;cases hx;rename_i b off vs oI hc hf h;rw[tX];refine Me ht _ (off+o) (c.drop o) (fun j=>vs (o+j)) (fun j xB=>?_) (fun x hx=>hf x (List.mem_of_mem_drop hx)) (fun j p hp=>?_) hr
  ·rw[Nat.add_assoc];exact hc (o+j) (by simp at xB;omega)
  rw[List.getElem?_drop]at hp;exact h (o+j) p hp
 ·rename_i c;cases hx with
  |pv _ _ h=>cases h with
   |rp _ b off vs oI hc hf h=>
    rw[tX];exact Me ht _ off c vs hc hf h hr
 cases hr
theorem Ug{b o:Nat}{vs:Array Value}{elem:TypeId}{fz:Nat×Nat}{x:Value}(h:w.heap[b]? =some (.cells vs elem fz)):
  (w.setCell ⟨b,o,none⟩ x).heap[b]? =some (.cells (vs.setIfInBounds o x) elem fz):=by
 obtain⟨xB,hv⟩:=Array.getElem?_eq_some_iff.1 h;simp[World.setCell,xB,hv,Array.getElem_modify]
theorem Ws{a:Addr}{x:Value}{b' :Nat}(jv:a.block≠b'):(w.setCell a x).heap[b']? =w.heap[b']? :=by
 simp[World.setCell,Array.getElem?_modify,jv]
theorem Uh{a:Addr}{x:Value}:(w.setCell a x).heap.size=w.heap.size:=by
 simp[World.setCell]
theorem RP.rY{p:PV}{v:Value}(hp:p.kv=true)(h:RP w Im p v):rY v=true:=by
 cases h<;>first|rfl|cases hp
theorem RA.rY{x:AV}{v:Value}(hp:x.kv=true)(h:RA w H ι Im x v):Go.Gm.rY v=true:=by
 cases h with
 |pv p v h=>exact h.rY hp
 |undef=>cases hp
 |agg=>cases hp
 |xS=>cases hp
 |row _ _ _ _ _ _ ho=>exact ho
 |_=>rfl
theorem Pj{b o:Nat}{vs:Array Value}{elem:TypeId}{fz:Nat×Nat}{x:Value}(h:w.heap[b]? =some (.cells vs elem fz))
  (ho:o<vs.size) (hf:wa fz vs.size) (hx:rY x=true):(store ⟨b,o,none⟩ x).run P w= .ok () (w.setCell ⟨b,o,none⟩ x):=by
 have hc:w.cell? ⟨b,o,none⟩=some vs[o]:=by rw[ux h];simp[ho]
 have hz:w.frozen? ⟨b,o,none⟩=false:=by
  have:=hf.2 o ho;simp only[World.frozen?,h];simp only[Bool.and_eq_false_iff,decide_eq_false_iff_not];omega
 cases x<;>simp_all [store,Sem.run,rY]
theorem wQ(b o:Nat)(elem:TypeId)(fz:Nat×Nat): ∀(xs:List Value)(i:Nat)(w:World)(vs:Array Value),w.heap[b]? =some (.cells vs elem fz)->
  wa fz vs.size->o+i+xs.length<=vs.size->(∀ x∈xs,rY x=true)->
  ∃w',(storeCells ⟨b,o,none⟩ xs i).run P w= .ok () w' /\(w'.heap.size=w.heap.size/\w'.os=w.os/\w'.output=w.output)/\(∀ b',b' ≠b->w'.heap[b']? =w.heap[b']?)/\
   ∃dG,w'.heap[b]? =some (.cells dG elem fz)/\dG.size=vs.size/\ ∀k,dG[k]? =if o+i<=k/\k<o+i+xs.length then xs[k-(o+i)]? else vs[k]?
 |[],i,w,vs,h,_,_,_=>by
  refine⟨w,by simp[storeCells],⟨rfl,rfl,rfl⟩,fun _ _=>rfl,vs,h,rfl,fun k=>?_⟩;rw[if_neg (by simp)]
 |x::r,i,w,vs,h,hf,hl,hx=>by
  simp only[List.length_cons]at hl;have h1:=Pj (P:=P) h (o:=o+i) (x:=x) (by omega) hf (hx x (by simp));have h2:=Ug (o:=o+i) (x:=x) h;obtain⟨w',g1,g2,g3,dG,g4,g5,g6⟩:=wQ b o elem fz r (i+1) (w.setCell ⟨b,o+i,none⟩ x) _ h2 (by simpa using hf)
   (by simp;omega) (fun y hy=>hx y (by simp[hy]))
  refine⟨w', ?_,⟨by rw[g2.1,Uh],g2.2.1,g2.2.2⟩,fun b' xQ=>by rw[g3 b' xQ,Ws (by exact Ne.symm xQ)],dG,g4,by simpa using g5,fun k=>?_⟩
  ·simp only[storeCells,add_plain,ji,h1,gm,g1]
  rw[g6 k];simp only[List.length_cons,Array.getElem?_setIfInBounds];by_cases hk:o+(i+1)<=k/\k<o+(i+1)+r.length
  ·rw[if_pos hk,if_pos (by omega)];obtain⟨j,rfl⟩: ∃j,k=o+i+(j+1):=⟨k-(o+i+1),by omega⟩;rw[show o+i+(j+1)-(o+(i+1))=j from by omega,show o+i+(j+1)-(o+i)=j+1 from by omega];rfl
  rw[if_neg hk];by_cases Tg:o+i=k
  ·subst Tg;rw[if_pos rfl,if_pos (by omega),if_pos (by omega)];simp
  rw[if_neg Tg,if_neg (by omega)]
theorem AV.cB{x:AV}{v:Value}(hx:RA w H ι Im x v)(hs:x.Bs=true):
  x.cells.length=v.cells.size/\(∀ y∈x.cells,y.kv=true)/\(∀ u∈v.cells.toList,rY u=true)/\
  ∀(i:Nat) y u,x.cells[i]? =some y->v.cells.toList[i]? =some u->RA w H ι Im y u:=by
 have one:x.kv=true->x.cells=[x]->
   x.cells.length=v.cells.size/\(∀ y∈x.cells,y.kv=true)/\(∀ u∈v.cells.toList,rY u=true)/\
   ∀(i:Nat) y u,x.cells[i]? =some y->v.cells.toList[i]? =some u->RA w H ι Im y u:=by
  intro hf e1;have ho:=hx.rY hf;have e2:v.cells= #[v]:=by cases v<;>first|rfl|cases ho
  rw[e1,e2];refine⟨rfl,by simpa using hf,by simpa using ho,fun i y u hy hu=>?_⟩;cases i with
  |zero=>simp at hy hu;subst hy hu;exact hx
  |succ i=>simp at hy
 have many: ∀(c:List AV)(vs:List Value),c.length=vs.length->(∀ x∈c,x.kv=true)->
   (∀(i:Nat) x v,c[i]? =some x->vs[i]? =some v->RA w H ι Im x v)-> ∀u∈vs,rY u=true:=by
  intro c vs hl hf h u hu;obtain⟨i,hi⟩:=jz hu;have:i<c.length:=by
   have:=(qF hi).1;omega
  exact(h i c[i] u (by simp) hi).rY (hf _ (by simp))
 cases hx with
 |undef=>cases hs
 |xS=>cases hs
 |pv p v h=>
  by_cases hp:p.kv=true
  ·exact one hp (by cases p<;>first|rfl|cases hp)
  cases h with
  |agg c vs hl hf h=>
   have h' : ∀(i:Nat) x v,(c.map AV.pv)[i]? =some x->vs[i]? =some v->RA w H ι Im x v:=fun i y u hy hu=>by
    simp only[List.getElem?_map,yi]at hy;obtain⟨p,hp,rfl⟩:=hy;exact .pv _ _ (h i p u hp hu)
   have Ys: ∀y∈c.map AV.pv,y.kv=true:=fun y hy=>by
    simp only[List.mem_map]at hy;obtain⟨p,hp,rfl⟩:=hy;exact hf p hp
   exact⟨by simpa[AV.cells,Value.cells]using hl,Ys,many _ vs (by simpa using hl) Ys h',h'⟩
  |_=>exact absurd rfl hp
 |agg c vs hl hf h=>exact⟨by simpa[AV.cells,Value.cells]using hl,hf,many c vs hl hf h,h⟩
 |_=>exact one rfl rfl
theorem kp{α:Type}(c xs:List α)(o k:Nat)(ho:o+xs.length<=c.length):
  (c.take o++xs++c.drop (o+xs.length))[k]? =if o<=k/\k<o+xs.length then xs[k-o]? else c[k]? :=by
 have hl:(c.take o).length=o:=by simp;omega
 by_cases h1:k<o
 ·rw[if_neg (by omega),List.append_assoc,List.getElem?_append_left (by omega),List.getElem?_take_of_lt h1]
 by_cases h2:k<o+xs.length
 ·rw[if_pos (by omega),List.getElem?_append_left (by simp;omega),List.getElem?_append_right (by omega),hl]
 rw[if_neg (by omega),List.getElem?_append_right (by simp;omega),List.getElem?_drop];congr 1;simp only[List.length_append,hl];omega
theorem iW{t:TypeId}{ti:TI}(ht:zx P t ti)(a:Addr)(v:Value)(hs:v.cells.size=ti.size):
  (Instr.storeAt t (.pointer (some a)) v).run P w=(storeCells a v.cells.toList).run P w:=by
 unfold Instr.storeAt Instr.sureAddr storeVar;simp[ht.size,hs]
theorem VQ{t:TypeId}{ti:TI}(ht:zx P t ti)(hi:qW w H ι Im){y:AV}{va vv:Value}{β zF i o:Nat}(hx:RA w H ι Im (.yT β zF i o) va)
  (c1:y.cells.length=vv.cells.size) (c2: ∀x∈y.cells,x.kv=true) (c3: ∀u∈vv.cells.toList,rY u=true)
  (c4: ∀(i:Nat) x u,y.cells[i]? =some x->vv.cells.toList[i]? =some u->RA w H ι Im x u) (hlen:y.cells.length=ti.size)
  {sz:Nat} {es:List (List AV)} (hb:H.get β=some (.yq sz es)) {ws:List (Nat×qC)} (hr:lL sz β zF i o ti.size y.cells es=some ws):
  ∃w' ι',(Instr.storeAt t va vv).run P w= .ok () w' /\qW w' (qS ws H) ι' Im/\w8 w H ι Im w' (qS ws H) ι' Im/\
   ∃β b b',ws=[(β,b')]/\H.get β=some b:=by
 unfold lL at hr;cases hr
theorem mL{ks:List Sk}{i x:Nat}(h:x∈(ks.set i .leaf).flatMap Sk.blocks):x∈ks.flatMap Sk.blocks:=by
 rw[List.mem_flatMap]at h |-;obtain⟨k,hk,hx⟩:=h;rcases List.mem_or_eq_of_mem_set hk with h|h
 ·exact⟨k,h,hx⟩
 subst h;simp[Sk.blocks]at hx
theorem Zj: ∀{ks:List Sk}{i:Nat},(ks.flatMap Sk.blocks).Nodup->((ks.set i .leaf).flatMap Sk.blocks).Nodup
 |[],i,h=>by simp
 |k::r,0,h=>by
  simp only[List.set_cons_zero,List.flatMap_cons,Sk.blocks,List.nil_append];rw[List.flatMap_cons,List.nodup_append]at h;exact h.2.1
 |k::r,i+1,h=>by
  rw[List.set_cons_succ,List.flatMap_cons,List.nodup_append];rw[List.flatMap_cons,List.nodup_append]at h;exact⟨h.1,Zj h.2.1,fun a ha b hb=>h.2.2 a ha b (mL hb)⟩
theorem Di{t:TypeId}{ti:TI}(ht:zx P t ti)(hi:qW w H ι Im){y:AV}{va vv:Value}{β zF i o:Nat}(hx:RA w H ι Im (.yT β zF i o) va)(hy:RA w H ι Im y vv)
  {ds:List Nat} {es:List PV} {i5:Option (Nat×Nat×Nat)} (hb:H.get β=some (.jI false ds es i5)) {ws:List (Nat×qC)} (hr:Zp β zF i o ti.size y ds es i5=some ws):
  ∃w' ι',(Instr.storeAt t va vv).run P w= .ok () w' /\qW w' (qS ws H) ι' Im/\w8 w H ι Im w' (qS ws H) ι' Im/\
   ∃β b b',ws=[(β,b')]/\H.get β=some b:=by
 unfold Zp at hr;split at hr;rotate_left
 ·cases hr
 rename_i γ fv n;split at hr;rotate_left
 ·cases hr
 rename_i hc;obtain⟨xU,fC,rfl,bO,rfl,AY⟩:=hc;simp only[kX]at hr;subst hr;have hvv:va= .pointer (some ⟨(ι β).b,i*1+0,none⟩):=by
  cases hx with
  |yT _ _ _ _ b1 o1 b xQ hv h=>
   rw[hb]at xQ;cases xQ;obtain⟨rfl,rfl⟩:=h _ _ _ rfl xU rfl;rfl
 subst hvv;rw[show i*1+0=i by omega];have Z7:rY vv=true:=by
  cases hy with
  |row _ _ _ _ _ _ ho=>exact ho
 have lW:vv.cells= #[vv]:=by cases vv<;>first|rfl|cases Z7
 obtain⟨vs,elem,fz,h1,h2,h3,h4,h5,h6,h7,h8,h9⟩:=hi.jI hb;obtain⟨w',g1,g2,g3,dG,g4,g5,g6⟩:=wQ (P:=P) (ι β).b i elem fz vv.cells.toList 0 w vs h1 h2 (by simp[lW];omega) (by simpa[lW]using Z7);rw[iW ht _ _ (by rw[lW,bO];rfl)];have hw: ∀b,Im b->w'.heap[b]? =w.heap[b]? :=fun b xQ=>g3 b (fun e=>hi.KH β _ b hb ⟨rfl,.inl e⟩ xQ);obtain⟨DK,Tk⟩:=List.nodup_cons.1 h6;refine⟨w',jj ι β ⟨(ι β).b,(ι β).cap,(ι β).ks.set i .leaf⟩,g1, ?_⟩;have key:=qW.ML hi (w' :=w') β (.jI false ds es (some (i,γ,n))) ⟨(ι β).b,(ι β).cap,(ι β).ks.set i .leaf⟩
  (fun x hx=>by rw[hb]at hx;cases hx;simp[xi,qC.sh,Pl.ka])
  ⟨by omega,g2.2⟩ (fun b' _ jv=>g3 b' (fun e=>jv _ hb ⟨rfl,.inl e⟩)) (fun z hz=> .inr ⟨_,hb,rfl,hz.2.imp id fun h=>⟨rfl,mL h.2⟩⟩) (fun bM=>by
   refine⟨dG,elem,fz,by simpa using g4,by rw[g5];exact h2,by rw[g5,h3];simp,by simpa using h4,by simpa using h5, ?_,fun x hx=>?_,fun j γ' ver' hf=>?_,fun i' p k hp hk=>?_⟩
   ·simp only[jT]
    exact List.nodup_cons.2 ⟨fun h=>DK (mL h),Zj Tk⟩
   ·simp only[jT]at hx
    rw[g2.1]
    exact h7 x (mL hx)
   ·cases hf
    exact fC
   simp only[jT]at hk
   have hg6:=g6 i'
   simp only[lW,Nat.add_zero,Array.length_toList,List.size_toArray,List.length_cons,List.length_nil,Nat.zero_add]at hg6
   by_cases BG:i=i'
   ·subst BG
    rw[if_pos (by omega)]at hg6
    simp only[Nat.sub_self,List.getElem?_cons_zero]at hg6
    refine⟨vv,hg6,fun h=>absurd rfl (h _ _ _ rfl),fun γ' ver' hf=>?_⟩
    cases hf
    rw[List.getElem?_set_self (by omega)]at hk
    cases hk
    exact⟨rfl,hy.mono hi bM⟩
   rw[if_neg (by omega)]at hg6
   rw[List.getElem?_set_ne BG]at hk
   obtain⟨v0,k1,k2,k3⟩:=h9 i' p k hp hk
   refine⟨v0,by rw[hg6];exact k1,fun _=>?_,fun γ' ver' hf=>by cases hf;exact absurd rfl BG⟩
   refine(k2 fun j γ' ver' hf e=>?_).mono bM.im hw fun x hx=>g3 x fun e=>?_
   ·subst e
    rw[hf]at AY
    simp only[Yi,decide_eq_true_eq]at AY
    exact BG AY.symm
   subst e
   exact DK (List.mem_flatMap.2 ⟨k,qX hk,hx⟩))
 exact⟨key.1,key.2,β,_,_,rfl,hb⟩
theorem S9{t:TypeId}{ti:TI}(ht:zx P t ti)(hi:qW w H ι Im){x y:AV}{va vv:Value}(hx:RA w H ι Im x va)(hy:RA w H ι Im y vv)
  {ws:List (Nat×qC)} (hr:e8 ti x y H=some ws):
  ∃w' ι',(Instr.storeAt t va vv).run P w= .ok () w' /\qW w' (qS ws H) ι' Im/\w8 w H ι Im w' (qS ws H) ι' Im/\
   ∃β b b',ws=[(β,b')]/\H.get β=some b:=by
 unfold e8 at hr;split at hr;rotate_left
 ·cases hr
 rename_i hc;obtain⟨XF,hlen⟩:=hc;obtain⟨c1,c2,c3,c4⟩:=AV.cB hy XF;have bO:vv.cells.size=ti.size:=by omega
 split at hr
 ·rename_i β o;split at hr
  ·rename_i c hb;split at hr;rotate_left
   ·cases hr
   rename_i ho;simp only[kX]at hr;subst hr;cases hx;obtain⟨vs,elem,fz,h1,h2,h3,h4,h5⟩:=hi.box hb;obtain⟨w',g1,g2,g3,dG,g4,g5,g6⟩:=wQ (P:=P) (ι β).b o elem fz vv.cells.toList 0 w vs h1 h2 (by simp;omega) c3;rw[iW ht _ _ bO];refine⟨w',jj ι β (ι β),g1, ?_⟩;rw[<- hlen]at ho |-;have key:=qW.put (Qf:=TG hb rfl) hi (w' :=w') β (.box (c.take o++y.cells++c.drop (o+y.cells.length))) (ι β) (fun x hx=>by rw[hb]at hx;cases hx;rfl)
    ⟨by omega,g2.2⟩ (fun b' _ jv=>g3 b' (fun e=>jv _ hb rfl e.symm)) (fun _=> .inr ⟨_,hb,rfl,rfl⟩) (fun he=>by
     refine⟨dG,elem,fz,by simpa using g4,by rw[g5];exact h2,by simp;omega, ?_, ?_⟩
     ·intro x hx
      simp only[List.mem_append]at hx
      rcases hx with (hx|hx)|hx
      ·exact h4 x (List.mem_of_mem_take hx)
      ·exact c2 x hx
      exact h4 x (List.mem_of_mem_drop hx)
     intro i x v hx hv
     rw[kp c y.cells o i ho]at hx
     rw[g6 i]at hv
     simp only[Nat.add_zero,Array.length_toList,<- c1]at hv
     refine RA.mono hi he ?_
     split at hx
     ·rename_i hc
      rw[if_pos hc]at hv
      exact c4 _ x v hx hv
     rename_i hc
     rw[if_neg hc]at hv
     exact h5 i x v hx hv)
   exact⟨key.1,key.2,β,_,_,rfl,hb⟩
  cases hr
 ·rename_i β zF i o;split at hr
  ·rename_i ps SZ;split at hr
   ·rename_i sz es hb;split at hr;rotate_left
    ·cases hr
    rename_i xU;split at hr;rotate_left
    ·cases hr
    rename_i e he;split at hr;rotate_left
    ·cases hr
    rename_i ho;simp only[kX]at hr;subst hr;have hvv:va= .pointer (some ⟨(ι β).b,i*sz+o,none⟩):=by
     cases hx with
     |yT _ _ _ _ b1 o1 b xQ hv h=>
      rw[hb]at xQ;cases xQ;obtain⟨rfl,rfl⟩:=h _ _ _ rfl xU rfl;rfl
    subst hvv;obtain⟨vs,elem,fz,h1,h2,h3,h4,h5,h6,h7,h8⟩:=hi.row hb;have hps' :=e9 SZ;have sH:ps.length=ti.size:=by rw[<- hlen,hps'];simp
    have fC:i<es.length:=(qF he).1;have Yr:e.length=sz:=h6 e (qX he);have sE:i*sz+sz<=vs.size:=by
     rw[h3,<- Nat.succ_mul];exact mulR _ (by omega)
    obtain⟨w',g1,g2,g3,dG,g4,g5,g6⟩:=wQ (P:=P) (ι β).b (i*sz+o) elem fz vv.cells.toList 0 w vs h1 h2 (by simp;omega) c3;rw[iW ht _ _ bO];refine⟨w',jj ι β (ι β),g1, ?_⟩;rw[<- sH]at ho |-;have nN: ∀(i' :Nat) e',(es.set i (e.take o++ps++e.drop (o+ps.length)))[i']? =some e' ->
      (i' =i/\e' =e.take o++ps++e.drop (o+ps.length))\/(i' ≠i/\es[i']? =some e'):=by
     intro i' e' h;rw[List.getElem?_set]at h;by_cases BG:i=i'
     ·subst BG;simp[fC]at h;exact .inl ⟨rfl,by rw[<- h];simp⟩
     simp[BG]at h;exact .inr ⟨Ne.symm BG,h⟩
    have hpf: ∀(j:Nat) p,ps[j]? =some p->p.kv=true/\ ∀u,vv.cells.toList[j]? =some u->RP w Im p u:=by
     intro j p hp;have hy:y.cells[j]? =some (.pv p):=by rw[hps'];simp[hp]
     refine⟨c2 _ (qX hy),fun u hu=>?_⟩;have:=c4 j _ u hy hu;cases this;assumption
    have key:=qW.put (Qf:=TG hb rfl) hi (w' :=w') β (.row false sz (es.set i (e.take o++ps++e.drop (o+ps.length)))) (ι β)
     (fun x hx=>by rw[hb]at hx;cases hx;simp[xi,qC.sh,Pl.ka])
     ⟨by omega,g2.2⟩ (fun b' _ jv=>g3 b' (fun e=>jv _ hb rfl e.symm)) (fun _=> .inr ⟨_,hb,rfl,rfl⟩) (fun bM=>by
      have hw: ∀b,Im b->w'.heap[b]? =w.heap[b]? :=fun b hb=>bM.Qm hi b hb
      refine⟨dG,elem,fz,by simpa using g4,by rw[g5];exact h2,by rw[g5,h3];simp,h4,by simpa using h5, ?_, ?_, ?_⟩
      ·intro e' W6
       obtain⟨i',vq⟩:=jz W6
       rcases nN i' e' vq with ⟨_,rfl⟩|⟨_,h⟩
       ·simp;omega
       exact h6 e' (qX h)
      ·intro i' e' j p vq hj
       rcases nN i' e' vq with ⟨_,rfl⟩|⟨_,h⟩
       ·rw[kp e ps o j ho]at hj
        split at hj
        ·exact(hpf _ p hj).1
        exact h7 i e j p he hj
       exact h7 i' e' j p h hj
      intro i' e' j p vq hj
      have NY:j<sz:=by
       rcases nN i' e' vq with ⟨_,rfl⟩|⟨_,h⟩
       ·have:=(qF hj).1
        simp at this
        omega
       have:=(qF hj).1
       have:=h6 e' (qX h)
       omega
      rw[g6]
      simp only[Nat.add_zero,Array.length_toList]
      have Eo:vv.cells.size=ps.length:=by omega
      rw[Eo]
      rcases nN i' e' vq with ⟨rfl,rfl⟩|⟨jv,h⟩
      ·rw[kp e ps o j ho]at hj
       split at hj
       ·rename_i hc
        rw[if_pos (by omega),show i' *sz+j-(i' *sz+o)=j-o from by omega]
        obtain⟨u,hu⟩: ∃u,vv.cells.toList[j-o]? =some u:=⟨vv.cells.toList[j-o]'(by simp;omega),by simp⟩
        exact⟨u,hu,((hpf _ p hj).2 u hu).mono bM.im hw⟩
       rename_i hc
       rw[if_neg (by omega)]
       obtain⟨u,hu,hr⟩:=h8 i' e j p he hj
       exact⟨u,hu,hr.mono bM.im hw⟩
      obtain⟨u,hu,hr⟩:=h8 i' e' j p h hj
      have Z8: ¬(i*sz+o<=i' *sz+j/\i' *sz+j<i*sz+o+ps.length):=by
       rcases Nat.lt_or_gt_of_ne jv with xB|BE
       ·have:(i' +1)*sz<=i*sz:=mulR _ xB
        rw[Nat.succ_mul]at this
        omega
       have:(i+1)*sz<=i' *sz:=mulR _ BE
       rw[Nat.succ_mul]at this
       omega
      rw[if_neg Z8]
      exact⟨u,hu,hr.mono bM.im hw⟩)
    exact⟨key.1,key.2,β,_,_,rfl,hb⟩
   ·rename_i sz es hb;exact VQ ht hi hx c1 c2 c3 c4 hlen hb hr
   cases hr
  split at hr
  ·rename_i sz es hb;exact VQ ht hi hx c1 c2 c3 c4 hlen hb hr
  ·rename_i ds es i5 hb;exact Di ht hi hx hy hb hr
  cases hr
 cases hr
end
section
variable [zN] {P:Program} {w:World} {H:qn} {ι:vG} {Im:Nat->Prop}
theorem zx.struct{t:TypeId}{ti:TI}(ht:zx P t ti){fs:List (Nat×Nat×TypeId)}(h:ti.td= .struct fs):
  ∃fields,P.underlying t=some (.struct fields)/\fs=fields.toList.map fun f=>(f.offset,P.cellsOf f.type,f.type):=by
 obtain⟨d,h1,h2⟩:=ht.L7;rw[h]at h2;cases d<;>simp[Xv]at h2;exact⟨_,h1,h2.symm⟩
theorem zx.array{t:TypeId}{ti:TI}(ht:zx P t ti){n:Nat}{e:TypeId}(h:ti.td= .array n e):P.underlying t=some (.array n e):=by
 obtain⟨d,h1,h2⟩:=ht.L7;rw[h]at h2;cases d<;>simp[Xv]at h2;obtain⟨rfl,rfl⟩:=h2;exact h1
theorem zx.slice{t:TypeId}{ti:TI}(ht:zx P t ti){e:TypeId}(h:ti.td= .slice e):P.underlying t=some (.slice e):=by
 obtain⟨d,h1,h2⟩:=ht.L7;rw[h]at h2;cases d<;>simp[Xv]at h2;obtain rfl:=h2;exact h1
theorem zx.map{t:TypeId}{ti:TI}(ht:zx P t ti){k e:TypeId}(h:ti.td= .map k e):P.underlying t=some (.map k e):=by
 obtain⟨d,h1,h2⟩:=ht.L7;rw[h]at h2;cases d<;>simp[Xv]at h2;obtain⟨rfl,rfl⟩:=h2;exact h1
theorem zx.int{t:TypeId}{ti:TI}(ht:zx P t ti){k:IntKind}(h:ti.td= .int k):P.underlying t=some (.int k):=by
 obtain⟨d,h1,h2⟩:=ht.L7;rw[h]at h2;cases d<;>simp[Xv]at h2;obtain rfl:=h2;exact h1
theorem zx.string{t:TypeId}{ti:TI}(ht:zx P t ti)(h:ti.td= .string):P.underlying t=some .string:=by
 obtain⟨d,h1,h2⟩:=ht.L7;rw[h]at h2;cases d<;>simp[Xv]at h2;exact h1
theorem zx.bool{t:TypeId}{ti:TI}(ht:zx P t ti)(h:ti.td= .bool):P.underlying t=some .bool:=by
 obtain⟨d,h1,h2⟩:=ht.L7;rw[h]at h2;cases d<;>simp[Xv]at h2;exact h1
theorem Y8{t:TypeId}(h:0<P.cellsOf t):(sizeOf t).run P w= .ok (P.cellsOf t) w:=by
 unfold Program.cellsOf at h |-;cases hi:P.info? t with
 |none=>simp[hi]at h
 |some i=>simp[sizeOf,uQ hi]
theorem zx.cellsOf{t:TypeId}{ti:TI}(ht:zx P t ti):P.cellsOf t=ti.size:=by
 obtain⟨i,z,h1,h2,_⟩:=ht.info;simp[Program.cellsOf,h1,h2]
theorem tj(b o:Nat)(f:Field)(h:0<P.cellsOf f.type):(fieldPlace ⟨b,o,none⟩ f).run P w= .ok ⟨b,o+f.offset,none⟩ w:=by
 unfold fieldPlace;have: ¬P.cellsOf f.type=0:=by omega
 simp[Y8 h,this,add_plain]
theorem KU{t:TypeId}{ti:TI}(ht:zx P t ti){x:AV}{v:Value}(hx:RA w H ι Im x v)
  {f:Nat} {r:AV} (hr:aZ ti.td x f=some r): ∃u,(Instr.fieldAt t v f).run P w= .ok u w/\RA w H ι Im r u:=by
 unfold aZ at hr;split at hr;rotate_left
 ·cases hr
 rename_i fs xr;obtain⟨fields,hu,rfl⟩:=ht.struct xr;split at hr;rotate_left
 ·cases hr
 rename_i o' s te hf;split at hr;rotate_left
 ·cases hr
 rename_i hs;simp only[List.getElem?_map,yi]at hf;obtain⟨fd,hf,hfe⟩:=hf;simp only[Prod.mk.injEq]at hfe;obtain⟨rfl,rfl,rfl⟩:=hfe;have hfa:fields[f]? =some fd:=by rw[<- hf];simp
 unfold Instr.fieldAt Instr.sureAddr;split at hr
 ·rename_i β o;cases hr;cases hx with
  |ptr _ _ c hb hk=>
   refine⟨.pointer (some ⟨(ι β).b,o+fd.offset,none⟩), ?_,.ptr β _ c hb hk⟩;simp[qv hu,hfa,tj _ _ fd hs]
 ·rename_i β zF j o;cases hr;cases hx with
  |yT _ _ _ _ b' o' b hb xU h=>
   refine⟨.pointer (some ⟨b',o' +fd.offset,none⟩), ?_,.yT β zF j _ b' _ b hb xU fun qq sz es e hv hn=>?_⟩
   ·simp[qv hu,hfa,tj _ _ fd hs]
   obtain⟨g1,g2⟩:=h qq sz es e hv hn;exact⟨g1,by omega⟩
 ·rename_i c o;cases hr;cases hx with
  |mR _ _ b off vs oI hc hf h=>
   refine⟨.pointer (some ⟨b,off+o+fd.offset,none⟩), ?_, ?_⟩
   ·simp[qv hu,hfa,tj _ _ fd hs]
   rw[Nat.add_assoc];exact .mR c _ b off vs oI hc hf h
 ·rename_i c;cases hr;cases hx with
  |pv _ _ h=>cases h with
   |rp _ b off vs oI hc hf h=>
    refine⟨.pointer (some ⟨b,off+fd.offset,none⟩), ?_,.mR c _ b off vs oI hc hf h⟩;simp[qv hu,hfa,tj _ _ fd hs]
 cases hr
theorem Qt{x:AV}{v:Value}(hx:RA w H ι Im x v){k:Nat}(h:wW x=some k): ∃kd,v= .int kd (k:Int):=by
 unfold wW at h;split at h
 ·split at h<;>cases h;rename_i kd n hn;cases hx with
  |pv _ _ h=>
   cases h;exact⟨kd,by rw[Int.toNat_of_nonneg hn]⟩
 cases h
theorem KV{G:TypeId->Option TI}(hG: ∀t ti,G t=some ti->zx P t ti){t:TypeId}{ti:TI}(ht:zx P t ti)(hi:qW w H ι Im)
  {x y:AV} {v u:Value} (hx:RA w H ι Im x v) (hy:RA w H ι Im y u) {r:AV} (hr:mI ti.td G x y H=some r):
  ∃z,(Instr.indexAt t v u).run P w= .ok z w/\RA w H ι Im r z:=by
 unfold mI at hr;split at hr
 ·cases hr
 rename_i k hk;obtain⟨kd,rfl⟩:=Qt hy hk;split at hr
 ·rename_i e xr;have hu:=ht.slice xr;split at hr
  ·cases hr
  rename_i te rD;have tR:=hG _ _ rD;split at hr
  ·rename_i qq sz es;split at hr;rotate_left
   ·cases hr
   rename_i bO;split at hr<;>cases hr;rename_i c hc;have mE:k<es.length:=(qF hc).1;cases hx with
   |pv _ _ h=>cases h with
    |cJ sz=>simp at mE
    |sl _ _ b off cap vs oI Xi hs JF hf h sp Tn=>
     obtain rfl:=Tn (by intro e;subst e;simp at mE);refine⟨.pointer (some ⟨b,off+k*sz,none⟩), ?_, ?_⟩
     ·unfold Instr.indexAt asIntOf;simp[qv hu,mE,tR.size,add_plain,bO]
     have:=RA.mR (w:=w) (H:=H) (ι:=ι) (Im:=Im) c 0 b (off+k*sz) (fun j=>vs (k*sz+j)) (oI (by intro e;subst e;simp at mE)) (fun j hj=>?_) (fun p hp=>?_) (fun j p hp=>h k c j p hc hp)
     ·simpa using this
     ·have BD:=hs c (qX hc);rw[Nat.add_assoc];refine JF _ ?_;have:(k+1)*sz<=es.length*sz:=mulR _ mE;rw[Nat.succ_mul]at this;omega
     obtain⟨j,hj⟩:=jz hp;exact hf k c j p hc hj
  ·rename_i β zF off n;split at hr
   ·rename_i sz es hb;split at hr<;>cases hr;rename_i hc;obtain⟨xU,bO,hkn⟩:=hc;cases hx with
    |row _ _ _ _ _ b ho xQ QM hver' h=>
     rw[hb]at xQ;cases xQ;obtain⟨h1,h2⟩:=h _ _ _ rfl xU;simp only[w9,if_false]at h2;obtain⟨a,rfl,fR,dR,eX⟩:=h2;obtain⟨vs,elem,fz,g1,g2,g3,g4,g5,_⟩:=hi.row hb;have ha4:=eX (by omega);obtain⟨ab,ao,T5⟩:=a;simp only at fR dR ha4;subst fR dR ha4;refine⟨.pointer (some ⟨(ι β).b,off*sz+k*sz,none⟩), ?_,.yT β zF (off+k) 0 _ _ _ hb (fun _ _ _ e=>by cases e;omega) fun _ _ _ e _ _=>?_⟩
     ·unfold Instr.indexAt asIntOf;simp[qv hu,hkn,tR.size,add_plain,bO]
     cases e;exact⟨rfl,by rw[Nat.add_mul];rfl⟩
   ·rename_i sz es hb;split at hr<;>cases hr;rename_i hc;obtain⟨xU,bO,hkn⟩:=hc;cases hx with
    |row _ _ _ _ _ b ho xQ QM hver' h=>
     rw[hb]at xQ;cases xQ;obtain⟨h1,h2⟩:=h _ _ _ rfl xU;simp only[w9,if_false]at h2;obtain⟨a,rfl,fR,dR,eX⟩:=h2;obtain⟨vs,elem,fz,g1,g2,g3,g4,g5,_⟩:=hi.yq hb;have ha4:=eX (by omega);obtain⟨ab,ao,T5⟩:=a;simp only at fR dR ha4;subst fR dR ha4;refine⟨.pointer (some ⟨(ι β).b,off*sz+k*sz,none⟩), ?_,.yT β zF (off+k) 0 _ _ _ hb (fun _ _ _ e=>by cases e;omega) fun _ _ _ e _ _=>?_⟩
     ·unfold Instr.indexAt asIntOf;simp[qv hu,hkn,tR.size,add_plain,bO]
     cases e;exact⟨rfl,by rw[Nat.add_mul];rfl⟩
   ·rename_i ds es i5 hb;split at hr<;>cases hr;rename_i hc;obtain⟨xU,bO,hkn⟩:=hc;cases hx with
    |row _ _ _ _ _ b ho xQ QM hver' h=>
     rw[hb]at xQ;cases xQ;obtain⟨h1,h2⟩:=h _ _ _ rfl xU;simp only[w9,if_false]at h2;obtain⟨a,rfl,fR,dR,eX⟩:=h2;obtain⟨vs,elem,fz,g1,g2,g3,g4,_⟩:=hi.jI hb;have ha4:=eX (by omega);obtain⟨ab,ao,T5⟩:=a;simp only at fR dR ha4;subst fR dR ha4;refine⟨.pointer (some ⟨(ι β).b,off*1+k*1,none⟩), ?_,.yT β zF (off+k) 0 _ _ _ hb (fun _ _ _ e=>by cases e;omega) fun _ _ _ e _ _=>?_⟩
     ·unfold Instr.indexAt asIntOf;simp[qv hu,hkn,tR.size,add_plain,bO]
     cases e;exact⟨rfl,by rw[Nat.add_mul];rfl⟩
   cases hr
  cases hr
 ·rename_i len e xr;have hu:=ht.array xr;split at hr
  ·cases hr
  rename_i te rD;have tR:=hG _ _ rD;split at hr;rotate_left
  ·cases hr
  rename_i mE;split at hr
  ·rename_i β o;cases hr;cases hx with
   |ptr _ _ c hb hk=>
    refine⟨.pointer (some ⟨(ι β).b,o+k*te.size,none⟩), ?_,.ptr β _ c hb hk⟩;unfold Instr.indexAt asIntOf Instr.sureAddr;simp[qv hu,mE,tR.size,add_plain]
  ·rename_i β zF j o;cases hr;cases hx with
   |yT _ _ _ _ b' o' b hb xU h=>
    refine⟨.pointer (some ⟨b',o' +k*te.size,none⟩), ?_,.yT β zF j _ b' _ b hb xU fun qq sz es e hv hn=>?_⟩
    ·unfold Instr.indexAt asIntOf Instr.sureAddr;simp[qv hu,mE,tR.size,add_plain]
    obtain⟨g1,g2⟩:=h qq sz es e hv hn;exact⟨g1,by omega⟩
  ·rename_i c o;cases hr;cases hx with
   |mR _ _ b off vs oI hc hf h=>
    refine⟨.pointer (some ⟨b,off+o+k*te.size,none⟩), ?_, ?_⟩
    ·unfold Instr.indexAt asIntOf Instr.sureAddr;simp[qv hu,mE,tR.size,add_plain]
    rw[Nat.add_assoc];exact .mR c _ b off vs oI hc hf h
  cases hr
 cases hr
theorem Hq{t:TypeId}{ti:TI}(ht:zx P t ti){x:AV}{v:Value}(hx:RA w H ι Im x v){off:Nat}{r:AV}
  (hr:Hp ti x off=some r): ∃cs u,v= .agg cs/\(part t cs off).run P w= .ok u w/\RA w H ι Im r u:=by
 have key: ∀(c:List AV)(vs:List Value),c.length=vs.length->(∀ x∈c,x.kv=true)->
   (∀(i:Nat) x v,c[i]? =some x->vs[i]? =some v->RA w H ι Im x v)->DU ti (c.drop off)=some r-> ∃u,(part t ⟨vs⟩ off).run P w= .ok u w/\RA w H ι Im r u:=by
  intro c vs hl hf h hr;unfold DU at hr;unfold part;simp only[ji,ht.isAgg,gm];by_cases ha:ti.isAgg=true
  ·simp only[ha,if_true]at hr |-;split at hr<;>cases hr;rename_i hlen;refine⟨.agg ⟨(vs.drop off).take ti.size⟩,by simp[ht.size],iN (by simp;omega) (fun x hx=>hf x (List.mem_of_mem_drop (List.mem_of_mem_take hx))) ?_⟩;intro i x v h1 h2;by_cases hi:i<ti.size
   ·rw[List.getElem?_take_of_lt hi,List.getElem?_drop]at h1 h2;exact h _ x v h1 h2
   have:=(qF h1).1;simp at this;omega
  simp only[ha,w9,if_false]at hr |-;split at hr<;>cases hr;rename_i x r' hd;have hx:c[off]? =some r:=by
   have:=congrArg (fun l=>l[0]?) hd;simpa using this
  have xB:off<vs.length:=by rw[<- hl];exact(qF hx).1
  refine⟨vs[off], ?_,h off r _ hx (by simp[xB])⟩;have:(⟨vs⟩:Array Value)[off]? =some vs[off]:=by simp[xB]
  simp[this]
 unfold Hp at hr;split at hr
 ·rename_i c;cases hx with
  |pv _ _ h=>cases h with
   |agg _ vs hl hf h=>
    have Lv:DU ti ((c.map AV.pv).drop off)=some r:=by
     rw[<- List.map_drop];unfold ldP at hr;unfold DU;by_cases ha:ti.isAgg=true
     ·simp only[ha,if_true,List.length_map]at hr |-;split at hr<;>cases hr;rename_i hlen;rw[if_pos hlen,<- List.map_take];congr 1;unfold ZQ;have: ∀l:List PV,ip (l.map AV.pv)=some l:=by
       intro l;induction l with
       |nil=>rfl
       |cons x r ih=>simp[ip,ih]
      rw[this]
     simp only[ha,w9,if_false]at hr |-;split at hr<;>cases hr;rename_i x r' hd;simp[hd]
    obtain⟨u,g1,g2⟩:=key (c.map .pv) vs (by simpa using hl) (fun y hy=>by
     simp only[List.mem_map]at hy
     obtain⟨p,hp,rfl⟩:=hy
     exact hf p hp) (fun i y u hy hu=>by
     simp only[List.getElem?_map,yi]at hy
     obtain⟨p,hp,rfl⟩:=hy
     exact .pv _ _ (h i p u hp hu)) Lv
    exact⟨_,u,rfl,g1,g2⟩
 ·rename_i c;cases hx with
  |agg _ vs hl hf h=>
   obtain⟨u,g1,g2⟩:=key c vs hl hf h hr;exact⟨_,u,rfl,g1,g2⟩
 cases hr
end
section
variable [zN] {P:Program} {w:World} {H:qn} {ι:vG} {Im:Nat->Prop}
def Bd(X:Nat->Prop)(H:qn)(nx:Nat):Prop:= ∀β b,H.get β=some b->β<nx\/X β
def mG(X:Nat->Prop)(w:World)(H:qn)(ι:vG)(Im:Nat->Prop)(nx:Nat)(e:bY)(u:Value)(w' :World):Prop:=
 ∃ι',qW w' (qS e.2.1 H) ι' Im/\w8 w H ι Im w' (qS e.2.1 H) ι' Im/\RA w' (qS e.2.1 H) ι' Im e.1 u/\nx<=e.2.2/\
  Bd X (qS e.2.1 H) e.2.2
theorem mG.pure(hi:qW w H ι Im){nx:Nat}{X:Nat->Prop}(xt:Bd X H nx){r:AV}{u:Value}(h:RA w H ι Im r u):
  mG X w H ι Im nx (r,[],nx) u w:=⟨ι,hi,w8.refl _ _ _ _,h,xJ _,xt⟩
theorem JA{nx:Nat}{X:Nat->Prop}(xt:Bd X H nx)(hX: ¬X nx):H.get nx=none:=by
 cases h:H.get nx with
 |none=>rfl
 |some b=>
  rcases xt nx b h with h|h
  ·omega
  exact absurd h hX
theorem ki{nx:Nat}{X:Nat->Prop}(xt:Bd X H nx){γ:Nat}{y:qC}{n:Nat}(hn:nx<=n)(hγ:γ<n\/X γ):Bd X (qS [(γ,y)] H) n:=by
 intro β b h;simp only[qS,qn.qZ]at h;split at h
 ·rename_i e;subst e;exact hγ
 rcases xt β b h with h|h
 ·exact .inl (by omega)
 exact .inr h
theorem sR{X:Nat->Prop}{nx:Nat}(h: ∀γ,X γ->nx+1<=γ): ¬X nx:=fun hx=>by have:=h _ hx;omega
theorem qW.new(hi:qW w H ι Im){nx:Nat}{X:Nat->Prop}(xt:Bd X H nx)(hX: ¬X nx)(w' :World)(y:qC)(o:Obj)(cap:Nat)
  (hw:w'.heap=w.heap.push o) (E3:w'.os=w.os/\w'.output=w.output)
  (eY: ∀ι',ι' nx=⟨w.heap.size,cap,[]⟩->w8 w H ι Im w' (H.put nx y) ι' Im->pE w' (H.put nx y) ι' Im nx y) (hyO:y.Tt=false:=by rfl):
  ∃ι',ι' nx=⟨w.heap.size,cap,[]⟩/\qW w' (H.put nx y) ι' Im/\w8 w H ι Im w' (H.put nx y) ι' Im:=by
 have hf:=JA xt hX;obtain⟨h1,h2⟩:=qW.put (Qf:=GC hf) (hy:=hyO) hi (w' :=w') nx y ⟨w.heap.size,cap,[]⟩ (fun x hx=>by rw[hf]at hx;cases hx) ⟨by rw[hw];simp,E3⟩
  (fun b hb _=>by rw[hw];simp[Array.getElem?_push,Nat.ne_of_lt hb]) (fun _=> .inl (xJ _))
  (eY _ (by simp))
 exact⟨_,by simp,h1,h2⟩
theorem xE(n:Nat):wa (0,0) n:=⟨xJ _,fun i _ h=>by simp at h⟩
theorem TF(hi:qW w H ι Im){nx:Nat}{X:Nat->Prop}(xt:Bd X H nx)(hX: ¬X nx)(c:List AV)(vs:List Value)(elem:TypeId)
  (hl:c.length=vs.length) (hf: ∀x∈c,x.kv=true) (h: ∀(i:Nat) x v,c[i]? =some x->vs[i]? =some v->RA w H ι Im x v):
  mG X w H ι Im nx (.ptr nx 0,[(nx,.box c)],nx+1) (.pointer (some ⟨w.heap.size,0,none⟩)) { w with heap:=w.heap.push (.cells ⟨vs⟩ elem) }:=by
 obtain⟨ι',h0,h1,h2⟩:=qW.new hi xt hX { w with heap:=w.heap.push (.cells ⟨vs⟩ elem) } (.box c) (.cells ⟨vs⟩ elem) 0 rfl ⟨rfl,rfl⟩ (fun ι' hp he=>by
  refine⟨⟨vs⟩,elem,(0,0),by simp[hp],xE _,by simpa using hl,hf,fun i x v hx hv=>?_⟩
  exact(h i x v hx (by simpa using hv)).mono hi he)
 refine⟨ι',h1,h2, ?_,by simp,ki xt (by simp) (.inl (by simp))⟩;have hg:(qS [(nx,qC.box c)] H).get nx=some (.box c):=by simp[qS,qn.qZ]
 have:=RA.ptr (w:={ w with heap:=w.heap.push (.cells ⟨vs⟩ elem) }) (ι:=ι') (Im:=Im) nx 0 _ hg rfl;rw[h0]at this;exact this
theorem lI(t:TypeId)(v:Value):(newVar t v).run P w= .ok ⟨w.heap.size,0,none⟩ { w with heap:=w.heap.push (.cells v.cells t) }:=by
 simp[newVar,newRow]
theorem oA{t:TypeId}{ti:TI}(ht:zx P t ti): ∃z,(zeroValue t).run P w= .ok z w/\ti.zero.length=z.cells.size/\
  (∀(i:Nat) p v,ti.zero[i]? =some p->z.cells.toList[i]? =some v->RP w Im p v)/\lA z=ti.td.isAgg:=by
 obtain⟨i,z,h1,h2,h3,h4,h5,h6⟩:=ht.info;obtain⟨g1,g2,g3⟩:=QB (w:=w) (Im:=Im) h5;refine⟨z,by simp[zeroValue,uQ h1,h4],by simpa using g1,g3,h6⟩
theorem S2{t:TypeId}{ti:TI}(ht:zx P t ti)(hi:qW w H ι Im){nx:Nat}{X:Nat->Prop}(xt:Bd X H nx)(hX: ¬X nx):
  ∃u w',(Instr.alloc t true (.tuple #[])).run P w= .ok u w' /\mG X w H ι Im nx (.ptr nx 0,[(nx,.box (ti.zero.map .pv))],nx+1) u w' :=by
 obtain⟨z,h1,h2,h3,_⟩:=oA (w:=w) (Im:=Im) ht;refine⟨_,_, ?_,TF hi xt hX (ti.zero.map .pv) z.cells.toList t (by simpa using h2) (fun x hx=>?_) (fun i x v hx hv=>?_)⟩
 ·unfold Instr.alloc;simp[h1,lI]
 ·simp only[List.mem_map]at hx;obtain⟨p,hp,rfl⟩:=hx;exact ht.kv p hp
 simp only[List.getElem?_map,yi]at hx;obtain⟨p,hp,rfl⟩:=hx;exact .pv _ _ (h3 i p v hp hv)
theorem Nc{G:GP}{t:TypeId}{ti:TI}(ht:zx P t ti)(hi:qW w H ι Im){nx:Nat}{X:Nat->Prop}(xt:Bd X H nx){e:bY}(hr:Q1 G t ti nx=some e)(hX: ∀γ,X γ->e.2.2<=γ):
  ∃u w',(Instr.alloc t true (.tuple #[])).run P w= .ok u w' /\mG X w H ι Im nx e u w' :=by
 unfold Q1 at hr;cases hr
theorem aBox_ok{t:TypeId}(hi:qW w H ι Im){nx:Nat}{X:Nat->Prop}(xt:Bd X H nx)(hX: ¬X nx){x:AV}{v:Value}(hx:RA w H ι Im x v)(hs:x.Bs=true):
  ∃u w',(Instr.box t v).run P w= .ok u w' /\mG X w H ι Im nx (.ptr nx 0,[(nx,.box x.cells)],nx+1) u w' :=by
 obtain⟨c1,c2,c3,c4⟩:=AV.cB hx hs;refine⟨_,_, ?_,TF hi xt hX x.cells v.cells.toList t (by simpa using c1) c2 c4⟩;unfold Instr.box;simp[lI]
theorem A4{t:TypeId}(hi:qW w H ι Im){x:AV}{v:Value}(hx:RA w H ι Im x v)(hs:x.Bs=true){l:List PV}(hl:ip x.cells=some l):
    ∃u w' jA,(Instr.box t v).run P w= .ok u w' /\qW w' H ι jA/\w8 w H ι Im w' H ι jA/\RA w' H ι jA (.pv (.rp l)) u:=by
  obtain⟨c1,c2,c3,c4⟩:=AV.cB hx hs
  have lW:=e9 hl
  have hold: ∀b,b<w.heap.size->(w.heap.push (.cells v.cells t))[b]? =w.heap[b]? :=fun b hb=>by simp[Array.getElem?_push,Nat.ne_of_lt hb]
  have he:w8 w H ι Im { w with heap:=w.heap.push (.cells v.cells t) } H ι (fun b=>Im b\/b=w.heap.size):=
    { comp:=fun β b h=>⟨b,h,vV b _⟩
      im:=fun _ h=> .inl h
      mr:=fun b h=>by
        rcases h with h|h
        · exact .inl h
        · exact .inr (.inl (by omega))
      bC:=fun β x z h hu=> .inr ⟨β,x,h,hu⟩
      ka:=fun b hb _=>hold b hb
      size:=by simp
      io:=⟨rfl,rfl⟩ }
  refine⟨.pointer (some ⟨w.heap.size,0,none⟩), { w with heap:=w.heap.push (.cells v.cells t) },fun b=>Im b\/b=w.heap.size, ?_, ?_,he, ?_⟩
  · unfold Instr.box
    simp[lI]
  · exact{
      mW:=fun β b hb=>(hi.mW β b hb).mono hi he (fun hu=>⟨rfl,fun x hx=>hold _ ((hi.mW β b hb).rC hx)⟩)
      inj:=hi.inj
      im:=fun b h=>by
        rcases h with h|h
        · have:=hi.im b h;simp;omega
        · simp;omega
      KH:=fun β b z hb hu h=>by
        rcases h with h|h
        · exact hi.KH β b z hb hu h
        · have:=(hi.mW β b hb).rC hu;omega
      HY:=zN.go hi.HY hi.W4 fun b hb=>hold b (hi.im b hb)
      W4:=fun b hb=> .inl (hi.W4 b hb) }
  · refine .pv _ _ (.rp l w.heap.size 0 (fun i=>(v.cells[i]?).getD undef) (.inr rfl) (fun i xB=>?_) (fun p hp=>?_) (fun i p hp=>?_))
    · have hlt' :i<v.cells.size:=by rw[<- c1,lW];simpa using xB
      simp[World.cell?,hlt']
    · have:=c2 (.pv p) (by rw[lW];exact List.mem_map.2 ⟨p,hp,rfl⟩)
      exact this
    · have h1:x.cells[i]? =some (.pv p):=by rw[lW];simp[hp]
      have hlt' :i<v.cells.size:=by rw[<- c1];exact(qF h1).1
      have h2:v.cells.toList[i]? =some v.cells[i]:=by simp[hlt']
      have h3:=(c4 i _ _ h1 h2).mono hi he
      simp only[hlt',Array.getElem?_eq_getElem,Option.getD_some]
      cases h3 with|pv _ _ h=>exact h
theorem WQ(off:Nat): ∀(l:List Value)(j:Nat)(cs:Array Value),off+j+l.length<=cs.size->
  ((l.zipIdx j).foldl (fun cs (c,j)=>cs.setIfInBounds (off+j) c) cs).size=cs.size/\
  ∀k,((l.zipIdx j).foldl (fun cs (c,j)=>cs.setIfInBounds (off+j) c) cs)[k]? =if off+j<=k/\k<off+j+l.length then l[k-(off+j)]? else cs[k]?
 |[],j,cs,_=>⟨rfl,fun k=>by rw[if_neg (by simp)];rfl⟩
 |x::r,j,cs,h=>by
  simp only[List.length_cons]at h;obtain⟨h1,h2⟩:=WQ off r (j+1) (cs.setIfInBounds (off+j) x) (by simp;omega);simp only[List.zipIdx_cons,List.foldl_cons];refine⟨by simpa using h1,fun k=>?_⟩;rw[h2 k];simp only[List.length_cons,Array.getElem?_setIfInBounds];by_cases hk:off+(j+1)<=k/\k<off+(j+1)+r.length
  ·rw[if_pos hk,if_pos (by omega)];obtain⟨m,rfl⟩: ∃m,k=off+j+(m+1):=⟨k-(off+j+1),by omega⟩;rw[show off+j+(m+1)-(off+(j+1))=m from by omega,show off+j+(m+1)-(off+j)=m+1 from by omega];rfl
  rw[if_neg hk];by_cases Tg:off+j=k
  ·subst Tg;rw[if_pos rfl,if_pos (by omega),if_pos (by omega)];simp
  rw[if_neg Tg,if_neg (by omega)]
theorem fA(off:Nat)(l:Array Value)(cs:Array Value)(h:off+l.size<=cs.size):
  (l.zipIdx.foldl (fun cs (c,j)=>cs.setIfInBounds (off+j) c) cs).size=cs.size/\
  ∀k,(l.zipIdx.foldl (fun cs (c,j)=>cs.setIfInBounds (off+j) c) cs)[k]? =if off<=k/\k<off+l.size then l[k-off]? else cs[k]? :=by
 have h1:=WQ off l.toList 0 cs (by simpa using h);rw[<- Array.foldl_toList];simpa using h1
def PR(w:World)(H:qn)(ι:vG)(Im:Nat->Prop)(c:List AV)(cs:Array Value):Prop:=
 c.length=cs.size/\(∀ x∈c,x.kv=true)/\ ∀(i:Nat) x v,c[i]? =some x->cs[i]? =some v->RA w H ι Im x v
theorem Js{a:Act}{E:vF}(hE: ∀t,RA w H ι Im (E.get t) (a.tmps.getD t undef))(z6 MH:Nat->Option (Nat×Nat))
  (sH: ∀i x,z6 i=some x->MH i=some x): ∀(parts:List (Nat×Operand))(c:List AV)(cs:Array Value),PR w H ι Im c cs->
  ∀{r:List AV},iD z6 (ev E) parts c=some r-> ∃rs,Instr.fill MH cs (parts.map fun(i,x)=>(i,a.eval x))=some rs/\PR w H ι Im r rs
 |[],c,cs,hc,r,h=>by
  simp only[iD,kX]at h;subst h;exact⟨cs,rfl,hc⟩
 |(i,x)::rest,c,cs,hc,r,h=>by
  simp only[iD]at h;split at h;rotate_left
  ·cases h
  rename_i off size hp;split at h;rotate_left
  ·cases h
  rename_i G0;obtain⟨hs,hl,ho⟩:=G0;have hx:=oX hE x;obtain⟨c1,c2,c3,c4⟩:=AV.cB hx hs;obtain⟨d1,d2,d3⟩:=hc;have DP:(a.eval x).cells.size=size:=by omega
  obtain⟨f1,f2⟩:=fA off (a.eval x).cells cs (by omega);have UA:PR w H ι Im (c.take off++(ev E x).cells++c.drop (off+size)) ((a.eval x).cells.zipIdx.foldl (fun cs (c,j)=>cs.setIfInBounds (off+j) c) cs):=by
   refine⟨by rw[f1];simp;omega,fun y hy=>?_,fun k y v hy hv=>?_⟩
   ·simp only[List.mem_append]at hy;rcases hy with (hy|hy)|hy
    ·exact d2 y (List.mem_of_mem_take hy)
    ·exact c2 y hy
    exact d2 y (List.mem_of_mem_drop hy)
   rw[<- hl,kp c (ev E x).cells off k (by omega)]at hy;rw[f2 k,DP,<- hl]at hv;split at hy
   ·rename_i hk;rw[if_pos hk]at hv;exact c4 _ y v hy (by simpa using hv)
   rename_i hk;rw[if_neg hk]at hv;exact d3 k y v hy hv
  obtain⟨rs,g1,g2⟩:=Js hE z6 MH sH rest _ _ UA h;refine⟨rs, ?_,g2⟩;simp only[List.map_cons,Instr.fill,sH _ _ hp];have Qf: ¬(decide ((a.eval x).cells.size≠size) || decide (off+(a.eval x).cells.size>cs.size))=true:=by
   simp only[Bool.or_eq_true,decide_eq_true_eq];omega
  rw[if_neg Qf];exact g1
theorem Xu(fields:Array Field)(sz:Field->Nat)(h: ∀f∈fields.toList,(sizeOf f.type).run P w= .ok (sz f) w):
  (fields.mapM fun f=>do pure (f.offset,<- sizeOf f.type):Sem _).run P w= .ok (fields.map fun f=>(f.offset,sz f)) w:=by
 rw[Array.mapM_eq_mapM_toList];have key: ∀(l:List Field),(∀ f∈l,(sizeOf f.type).run P w= .ok (sz f) w)->
   (l.mapM fun f=>do pure (f.offset,<- sizeOf f.type):Sem _).run P w= .ok (l.map fun f=>(f.offset,sz f)) w:=by
  intro l;induction l with
  |nil=>intro _;simp
  |cons f r ih=>
   intro h;have h1:=h f (by simp);have h2:=ih fun g hg=>h g (by simp[hg]);simp only[List.mapM_cons,ji,h1,gm,Sem.run_pure,h2,List.map_cons]
 simp only[Sem.run_map,key fields.toList h,gm];congr 1;apply Array.ext';simp
theorem Bi{t:TypeId}{i:TypeInfo}(h:P.info? t=some i):(sizeOf t).run P w= .ok (P.cellsOf t) w:=by
 simp[sizeOf,uQ h,Program.cellsOf,h]
theorem S3{G:TypeId->Option TI}(hG: ∀t ti,G t=some ti->zx P t ti){t:TypeId}{ti:TI}(ht:zx P t ti)
  {a:Act} {E:vF} (hE: ∀t,RA w H ι Im (E.get t) (a.tmps.getD t undef)) (parts:Array (Nat×Operand)) {r:AV} (hr:XZ ti G (ev E) parts.toList=some r):
  ∃u,(Instr.build t (parts.map fun(i,x)=>(i,a.eval x))).run P w= .ok u w/\RA w H ι Im r u:=by
 obtain⟨z,h1,h2,h3,h4⟩:=oA (w:=w) (Im:=Im) ht;have hz:PR w H ι Im (ti.zero.map .pv) z.cells:=by
  refine⟨by simpa using h2,fun x hx=>?_,fun i x v hx hv=>?_⟩
  ·simp only[List.mem_map]at hx;obtain⟨p,hp,rfl⟩:=hx;exact ht.kv p hp
  simp only[List.getElem?_map,yi]at hx;obtain⟨p,hp,rfl⟩:=hx;exact .pv _ _ (h3 i p v hp (by simpa using hv))
 have Z9:(parts.map fun(i,x)=>(i,a.eval x)).toList=parts.toList.map fun(i,x)=>(i,a.eval x):=by simp
 unfold XZ at hr;unfold Instr.build;simp only[ji,h1,gm];split at hr
 ·rename_i fs xr;obtain⟨fields,hu,rfl⟩:=ht.struct xr;have hkn: ∀f∈fields.toList,(sizeOf f.type).run P w= .ok (P.cellsOf f.type) w:=by
   intro f hf;have hk:=ht.known;unfold iC at hk;rw[hu]at hk;have:=List.all_eq_true.1 hk f hf;obtain⟨i,hi⟩:=Option.isSome_iff_exists.1 this;exact Bi hi
  split at hr<;>cases hr;rename_i c hc;obtain⟨rs,g1,g2⟩:=Js hE _ ((fields.map fun f=>(f.offset,P.cellsOf f.type))[·]?) (fun i x hx=>by
   unfold iB at hx
   simp only[List.getElem?_map]at hx
   cases hf:fields.toList[i]? with
   |none=>simp[hf]at hx
   |some f=>
    simp only[hf,Option.map_some,kX]at hx
    have:fields[i]? =some f:=by rw[<- hf];simp
    simp[this,<- hx]) parts.toList _ _ hz hc
  simp only[qv hu,gm,ji,Xu fields _ hkn,Z9,g1];exact⟨.agg rs,by simp,iN (by simpa using g2.1) g2.2.1 fun i x v hx hv=>g2.2.2 i x v hx (by simpa using hv)⟩
 ·rename_i len e xr;have hu:=ht.array xr;split at hr;rotate_left
  ·cases hr
  rename_i te rD;split at hr<;>cases hr;rename_i c hc;obtain⟨rs,g1,g2⟩:=Js hE _ (fun i=>some (i*te.size,te.size)) (fun i x hx=>hx) parts.toList _ _ hz hc;simp only[qv hu,gm,ji,(hG _ _ rD).size,Z9,g1];exact⟨.agg rs,by simp,iN (by simpa using g2.1) g2.2.1 fun i x v hx hv=>g2.2.2 i x v hx (by simpa using hv)⟩
 cases hr
end
section
variable [zN] {P:Program} {w:World} {H:qn} {ι:vG} {Im:Nat->Prop}
def xD(w:World)(Im:Nat->Prop)(sz:Nat)(es:List (List PV))(cs:Nat->Option Value):Prop:=
 (∀ e∈es,e.length=sz)/\(∀(i:Nat) e(j:Nat) p,es[i]? =some e->e[j]? =some p->p.kv=true)/\
 ∀(i:Nat) e(j:Nat) p,es[i]? =some e->e[j]? =some p-> ∃v,cs (i*sz+j)=some v/\RP w Im p v
theorem xD.mono{w' :World}{jA:Nat->Prop}(hi: ∀b,Im b->jA b)(hw: ∀b,Im b->w'.heap[b]? =w.heap[b]?){sz:Nat}{es:List (List PV)}
  {cs:Nat->Option Value} (h:xD w Im sz es cs):xD w' jA sz es cs:=
 ⟨h.1,h.2.1,fun i e j p a b=>let⟨v,g1,g2⟩:=h.2.2 i e j p a b;⟨v,g1,g2.mono hi hw⟩⟩
theorem XM(hi:qW w H ι Im){nx:Nat}{X:Nat->Prop}(xt:Bd X H nx)(hX: ¬X nx)(sz:Nat)(es:List (List PV))(cs:Array Value)(elem:TypeId)
  (fz:Nat×Nat) (cap:Nat) (w' :World) (hw:w'.heap=w.heap.push (.cells cs elem fz)) (E3:w'.os=w.os/\w'.output=w.output) (hfz:wa fz cs.size) (bO:0<sz) (hc:cs.size=cap*sz)
  (Xi:es.length<=cap) (h:xD w Im sz es (cs[·]?)):
  mG X w H ι Im nx (.row nx es.length 0 es.length,[(nx,.row false sz es)],nx+1) (.slice (some ⟨w.heap.size,0,none⟩) es.length cap) w' :=by
 obtain⟨ι',h0,h1,h2⟩:=qW.new hi xt hX w' (.row false sz es) (.cells cs elem fz) cap hw E3 (fun ι' hp he=>by
  have hk: ∀b,Im b->w'.heap[b]? =w.heap[b]? :=fun b hb=>he.Qm hi b hb
  obtain⟨k1,k2,k3⟩:=h.mono he.im hk
  exact⟨cs,elem,fz,by simp[hp,hw],hfz,by simp[hp,hc],bO,by simp[hp,Xi],k1,k2,k3⟩)
 refine⟨ι',h1,h2, ?_,by simp,ki xt (by simp) (.inl (by simp))⟩;have hg:(qS [(nx,qC.row false sz es)] H).get nx=some (.row false sz es):=by simp[qS,qn.qZ]
 refine .row nx _ 0 _ _ _ rfl hg (fun _=>⟨_,_,_,rfl⟩) (fun _ _ _ e=>by cases e;exact xJ _) fun _ _ _ e _=>?_;cases e;refine⟨by simp, ?_⟩;simp only[w9,if_false];exact⟨⟨w.heap.size,0,none⟩,by simp[h0],rfl,by simp[h0],fun _=>by simp⟩
def gv(w:World)(H:qn)(ι:vG)(Im:Nat->Prop)(sz:Nat)(es:List (List AV))(cs:Nat->Option Value):Prop:=
 (∀ e∈es,e.length=sz)/\(∀(i:Nat) e(j:Nat) x,es[i]? =some e->e[j]? =some x->x.kv=true)/\
 ∀(i:Nat) e(j:Nat) x,es[i]? =some e->e[j]? =some x-> ∃v,cs (i*sz+j)=some v/\RA w H ι Im x v
theorem gv.mono{w' :World}{H' :qn}{ι' :vG}{jA:Nat->Prop}(hi:qW w H ι Im)(he:w8 w H ι Im w' H' ι' jA){sz:Nat}{es:List (List AV)}
  {cs:Nat->Option Value} (h:gv w H ι Im sz es cs):gv w' H' ι' jA sz es cs:=
 ⟨h.1,h.2.1,fun i e j p a b=>let⟨v,g1,g2⟩:=h.2.2 i e j p a b;⟨v,g1,g2.mono hi he⟩⟩
theorem GB(hi:qW w H ι Im){nx:Nat}{X:Nat->Prop}(xt:Bd X H nx)(hX: ¬X nx)(sz:Nat)(es:List (List AV))(cs:Array Value)(elem:TypeId)
  (fz:Nat×Nat) (cap:Nat) (w' :World) (hw:w'.heap=w.heap.push (.cells cs elem fz)) (E3:w'.os=w.os/\w'.output=w.output) (hfz:wa fz cs.size) (bO:0<sz) (hc:cs.size=cap*sz)
  (Xi:es.length<=cap) (h:gv w H ι Im sz es (cs[·]?)):
  mG X w H ι Im nx (.row nx es.length 0 es.length,[(nx,.yq sz es)],nx+1) (.slice (some ⟨w.heap.size,0,none⟩) es.length cap) w' :=by
 obtain⟨ι',h0,h1,h2⟩:=qW.new hi xt hX w' (.yq sz es) (.cells cs elem fz) cap hw E3 (fun ι' hp he=>by
  obtain⟨k1,k2,k3⟩:=h.mono hi he
  exact⟨cs,elem,fz,by simp[hp,hw],hfz,by simp[hp,hc],bO,by simp[hp,Xi],k1,k2,k3⟩)
 refine⟨ι',h1,h2, ?_,by simp,ki xt (by simp) (.inl (by simp))⟩;have hg:(qS [(nx,qC.yq sz es)] H).get nx=some (.yq sz es):=by simp[qS,qn.qZ]
 refine .row nx _ 0 _ _ _ rfl hg (fun _=>⟨_,_,_,rfl⟩) (fun _ _ _ e=>by cases e;exact xJ _) fun _ _ _ e _=>?_;cases e;refine⟨by simp, ?_⟩;simp only[w9,if_false];exact⟨⟨w.heap.size,0,none⟩,by simp[h0],rfl,by simp[h0],fun _=>by simp⟩
theorem Qz{x:AV}{v:Value}(hx:RA w H ι Im x v){p:PV}(h:Kd x=some p):RP w Im p v:=by
 unfold Kd at h;split at h<;>cases h
 ·cases hx;assumption
 cases hx with
 |aT a=>
  exact .sl 0 [] a.block a.off 0 (fun _=>undef) (fun h=>absurd rfl h) (Nat.zero_le _) (by simp) (fun i xB=>by simp at xB) (by simp) (by simp) a.spot (fun h=>absurd rfl h)
theorem PV.cB{p:PV}{v:Value}(h:RP w Im p v):p.cells.length=v.cells.size/\(∀ q∈p.cells,q.kv=true)/\
  ∀(i:Nat) q u,p.cells[i]? =some q->v.cells[i]? =some u->RP w Im q u:=by
 by_cases hp:p.kv=true
 ·have ho:=h.rY hp;have e1:p.cells=[p]:=by cases p<;>first|rfl|cases hp
  have e2:v.cells= #[v]:=by cases v<;>first|rfl|cases ho
  rw[e1,e2];refine⟨rfl,by simpa using hp,fun i q u hq hu=>?_⟩;cases i with
  |zero=>simp at hq hu;subst hq hu;exact h
  |succ i=>simp at hq
 cases h with
 |agg c vs hl hf h=>exact⟨by simpa[PV.cells,Value.cells]using hl,hf,fun i q u hq hu=>h i q u hq (by simpa[Value.cells]using hu)⟩
 |_=>exact absurd rfl hp
theorem Ju{a:Act}{E:vF}(hE: ∀t,RA w H ι Im (E.get t) (a.tmps.getD t undef))(size:Nat): ∀(parts:List (Nat×Operand))(es:List (List PV))(cs:Array Value),
  cs.size=es.length*size->xD w Im size es (cs[·]?)->
  ∀{r:List (List PV)},pK size (ev E) parts es=some r-> ∃rs,Instr.fill (fun i=>some (i*size,size)) cs (parts.map fun(i,x)=>(i,a.eval x))=some rs/\
   r.length=es.length/\rs.size=es.length*size/\xD w Im size r (rs[·]?)
 |[],es,cs,hs,hc,r,h=>by
  simp only[pK,kX]at h;subst h;exact⟨cs,rfl,rfl,hs,hc⟩
 |(i,x)::rest,es,cs,hs,hc,r,h=>by
  simp only[pK]at h;split at h;rotate_left
  ·cases h
  rename_i p hp;split at h;rotate_left
  ·cases h
  rename_i G0;obtain⟨sH,fC⟩:=G0;have hx:=Qz (oX hE x) hp;obtain⟨c1,c2,c3⟩:=PV.cB hx;have DP:(a.eval x).cells.size=size:=by omega
  have sE:i*size+size<=cs.size:=by
   rw[hs,<- Nat.succ_mul];exact mulR _ fC
  obtain⟨f1,f2⟩:=fA (i*size) (a.eval x).cells cs (by omega);have nN: ∀(i' :Nat) e',(es.set i p.cells)[i']? =some e' ->(i' =i/\e' =p.cells)\/(i' ≠i/\es[i']? =some e'):=by
   intro i' e' h;rw[List.getElem?_set]at h;by_cases BG:i=i'
   ·subst BG;simp[fC]at h;exact .inl ⟨rfl,h.symm⟩
   simp[BG]at h;exact .inr ⟨Ne.symm BG,h⟩
  obtain⟨rs,g1,g2,g3,g4⟩:=Ju hE size rest (es.set i p.cells) _ (by rw[f1];simpa using hs) (by
   refine⟨fun e he=>?_,fun i' e' j q vq hj=>?_,fun i' e' j q vq hj=>?_⟩
   ·obtain⟨i',vq⟩:=jz he
    rcases nN i' e vq with ⟨_,rfl⟩|⟨_,h⟩
    ·exact sH
    exact hc.1 e (qX h)
   ·rcases nN i' e' vq with ⟨_,rfl⟩|⟨_,h⟩
    ·exact c2 q (qX hj)
    exact hc.2.1 i' e' j q h hj
   have NY:j<size:=by
    have h1:=(qF hj).1
    rcases nN i' e' vq with ⟨_,rfl⟩|⟨_,h⟩
    ·omega
    have:=hc.1 e' (qX h)
    omega
   show ∃v,_/\_
   simp only[f2]
   rcases nN i' e' vq with ⟨rfl,rfl⟩|⟨jv,h⟩
   ·rw[if_pos (by omega),show i' *size+j-i' *size=j from by omega]
    obtain⟨u,hu⟩: ∃u,(a.eval x).cells[j]? =some u:=⟨(a.eval x).cells[j]'(by omega),by simp⟩
    exact⟨u,hu,c3 j q u hj hu⟩
   obtain⟨u,hu,hr⟩:=hc.2.2 i' e' j q h hj
   have Z8: ¬(i*size<=i' *size+j/\i' *size+j<i*size+(a.eval x).cells.size):=by
    rcases Nat.lt_or_gt_of_ne jv with xB|BE
    ·have:(i' +1)*size<=i*size:=mulR _ xB
     rw[Nat.succ_mul]at this
     omega
    have:(i+1)*size<=i' *size:=mulR _ BE
    rw[Nat.succ_mul]at this
    omega
   rw[if_neg Z8]
   exact⟨u,hu,hr⟩) h
  refine⟨rs, ?_,by simpa using g2,by simpa using g3,g4⟩;have Qf: ¬(decide ((a.eval x).cells.size≠size) || decide (i*size+(a.eval x).cells.size>cs.size))=true:=by
   simp only[Bool.or_eq_true,decide_eq_true_eq];omega
  simp only[List.map_cons,Instr.fill];rw[if_neg Qf];exact g1
theorem ZD{a:Act}{E:vF}(hE: ∀t,RA w H ι Im (E.get t) (a.tmps.getD t undef))(size:Nat): ∀(parts:List (Nat×Operand))(es:List (List AV))(cs:Array Value),
  cs.size=es.length*size->gv w H ι Im size es (cs[·]?)->
  ∀{r:List (List AV)},mo size (ev E) parts es=some r-> ∃rs,Instr.fill (fun i=>some (i*size,size)) cs (parts.map fun(i,x)=>(i,a.eval x))=some rs/\
   r.length=es.length/\rs.size=es.length*size/\gv w H ι Im size r (rs[·]?)
 |[],es,cs,hs,hc,r,h=>by
  simp only[mo,kX]at h;subst h;exact⟨cs,rfl,rfl,hs,hc⟩
 |(i,x)::rest,es,cs,hs,hc,r,h=>by
  simp only[mo]at h;split at h;rotate_left
  ·cases h
  rename_i G0;obtain⟨XF,sH,fC⟩:=G0;obtain⟨c1,c2,_,c3⟩:=AV.cB (oX hE x) XF;have DP:(a.eval x).cells.size=size:=by omega
  have sE:i*size+size<=cs.size:=by
   rw[hs,<- Nat.succ_mul];exact mulR _ fC
  obtain⟨f1,f2⟩:=fA (i*size) (a.eval x).cells cs (by omega);have nN: ∀(i' :Nat) e',(es.set i (ev E x).cells)[i']? =some e' ->(i' =i/\e' =(ev E x).cells)\/(i' ≠i/\es[i']? =some e'):=by
   intro i' e' h;rw[List.getElem?_set]at h;by_cases BG:i=i'
   ·subst BG;simp[fC]at h;exact .inl ⟨rfl,h.symm⟩
   simp[BG]at h;exact .inr ⟨Ne.symm BG,h⟩
  obtain⟨rs,g1,g2,g3,g4⟩:=ZD hE size rest (es.set i (ev E x).cells) _ (by rw[f1];simpa using hs) (by
   refine⟨fun e he=>?_,fun i' e' j q vq hj=>?_,fun i' e' j q vq hj=>?_⟩
   ·obtain⟨i',vq⟩:=jz he
    rcases nN i' e vq with ⟨_,rfl⟩|⟨_,h⟩
    ·exact sH
    exact hc.1 e (qX h)
   ·rcases nN i' e' vq with ⟨_,rfl⟩|⟨_,h⟩
    ·exact c2 q (qX hj)
    exact hc.2.1 i' e' j q h hj
   have NY:j<size:=by
    have h1:=(qF hj).1
    rcases nN i' e' vq with ⟨_,rfl⟩|⟨_,h⟩
    ·omega
    have:=hc.1 e' (qX h)
    omega
   show ∃v,_/\_
   simp only[f2]
   rcases nN i' e' vq with ⟨rfl,rfl⟩|⟨jv,h⟩
   ·rw[if_pos (by omega),show i' *size+j-i' *size=j from by omega]
    obtain⟨u,hu⟩: ∃u,(a.eval x).cells[j]? =some u:=⟨(a.eval x).cells[j]'(by omega),by simp⟩
    exact⟨u,hu,c3 j q u hj (by simpa using hu)⟩
   obtain⟨u,hu,hr⟩:=hc.2.2 i' e' j q h hj
   have Z8: ¬(i*size<=i' *size+j/\i' *size+j<i*size+(a.eval x).cells.size):=by
    rcases Nat.lt_or_gt_of_ne jv with xB|BE
    ·have:(i' +1)*size<=i*size:=mulR _ xB
     rw[Nat.succ_mul]at this
     omega
    have:(i+1)*size<=i' *size:=mulR _ BE
    rw[Nat.succ_mul]at this
    omega
   rw[if_neg Z8]
   exact⟨u,hu,hr⟩) h
  refine⟨rs, ?_,by simpa using g2,by simpa using g3,g4⟩;have Qf: ¬(decide ((a.eval x).cells.size≠size) || decide (i*size+(a.eval x).cells.size>cs.size))=true:=by
   simp only[Bool.or_eq_true,decide_eq_true_eq];omega
  simp only[List.map_cons,Instr.fill];rw[if_neg Qf];exact g1
theorem Uy{te:TI}{t:TypeId}(ht:zx P t te){z:Value}(h2:te.zero.length=z.cells.size)
  (h3: ∀(i:Nat) p v,te.zero[i]? =some p->z.cells.toList[i]? =some v->RP w Im p v) (len:Nat):
  xD w Im te.size (List.replicate len te.zero) (((Array.range (len*te.size)).map (z.cells[· % z.cells.size]!))[·]?):=by
 refine⟨fun e he=>?_,fun i e j p hi hj=>?_,fun i e j p hi hj=>?_⟩
 ·rw[List.eq_of_mem_replicate he,ht.len]
 ·rw[List.getElem?_replicate]at hi;split at hi<;>cases hi;exact ht.kv p (qX hj)
 rw[List.getElem?_replicate]at hi;split at hi<;>cases hi;rename_i xB;have NX:=(qF hj).1;have hl:=ht.len;have hb:i*te.size+j<len*te.size:=by
  have:(i+1)*te.size<=len*te.size:=mulR _ xB;rw[Nat.succ_mul]at this;omega
 have hm:(i*te.size+j) % z.cells.size=j:=by
  rw[<- h2,hl,Nat.mul_comm,Nat.mul_add_mod];exact Nat.mod_eq_of_lt (by omega)
 have hjz:j<z.cells.size:=by omega
 refine⟨z.cells[j], ?_,h3 j p _ hj (by simp[hjz])⟩;simp[hb,hm,hjz]
theorem J0{G:TypeId->Option TI}(hG: ∀t ti,G t=some ti->zx P t ti){t e:TypeId}{ti te:TI}(ht:zx P t ti)(xr:ti.td= .slice e)(rD:G e=some te)
  (hi:qW w H ι Im) {nx:Nat} {X:Nat->Prop} (xt:Bd X H nx) (hX: ¬X nx)
  {a:Act} {E:vF} (hE: ∀t,RA w H ι Im (E.get t) (a.tmps.getD t undef)) (len:Nat) (parts:Array (Nat×Operand)) (bU:0<te.size) (hlen:len*te.size<=2^24)
  {es:List (List PV)} (hr:pK te.size (ev E) parts.toList (List.replicate len te.zero)=some es):
  ∃u w',(Instr.buildSlice t len (parts.map fun(i,x)=>(i,a.eval x))).run P w= .ok u w' /\
   mG X w H ι Im nx (.row nx es.length 0 es.length,[(nx,.row false te.size es)],nx+1) u w' :=by
 have tR:=hG _ _ rD;obtain⟨z,h1,h2,h3,h4⟩:=oA (w:=w) (Im:=Im) tR;have hzr:=Uy (w:=w) (Im:=Im) tR h2 h3 len;obtain⟨rs,g1,g2,g3,g4⟩:=Ju hE te.size parts.toList _ _ (by simp) hzr hr;have rR:es.length=len:=by simpa using g2
 have Z9:(parts.map fun(i,x)=>(i,a.eval x)).toList=parts.toList.map fun(i,x)=>(i,a.eval x):=by simp
 refine⟨.slice (some ⟨w.heap.size,0,none⟩) es.length es.length, { w with heap:=w.heap.push (.cells rs e) }, ?_,XM hi xt hX te.size es rs e (0,0) es.length _ rfl ⟨rfl,rfl⟩ (xE _) bU (by rw[g3,rR];simp) (xJ _) g4⟩;unfold Instr.buildSlice;simp only[ji,qv (ht.slice xr),gm,tR.size];rw[Z9];have Qf: ¬(len*te.size>2^24):=by omega
 by_cases h0:len*te.size=0
 ·simp only[h0]at g1 |-;have hz0:((Array.range 0).map fun x=>(#[]:Array Value)[x % (#[]:Array Value).size]!)=((Array.range 0).map (z.cells[· % z.cells.size]!)):=by simp
  simp only[Nat.reducePow,Nat.not_lt_zero,gt_iff_lt,if_false,Sem.run_pure,gm,if_true,ji,hz0,g1,rR];simp[newRow]
 simp only[Qf,if_false,Sem.run_pure,gm,h0,ji,h1,g1,rR];simp[newRow]
theorem Lk{sz:Nat}{z:List PV}{len:Nat}{cs:Nat->Option Value}(h:xD w Im sz (List.replicate len z) cs):gv w H ι Im sz (List.replicate len (z.map AV.pv)) cs:=by
 have get: ∀(i:Nat) e,(List.replicate len (z.map AV.pv))[i]? =some e->(List.replicate len z)[i]? =some z/\e=z.map AV.pv:=by
  intro i e h;rw[List.getElem?_replicate]at h |-;split at h<;>cases h;rename_i xB;exact⟨if_pos xB,rfl⟩
 refine⟨fun e he=>?_,fun i e j x hi hj=>?_,fun i e j x hi hj=>?_⟩
 ·obtain⟨i,hi⟩:=jz he;obtain⟨h1,rfl⟩:=get i e hi;rw[List.length_map];exact h.1 z (qX h1)
 ·obtain⟨h1,rfl⟩:=get i e hi;rw[List.getElem?_map,yi]at hj;obtain⟨p,hp,rfl⟩:=hj;exact h.2.1 i z j p h1 hp
 obtain⟨h1,rfl⟩:=get i e hi;rw[List.getElem?_map,yi]at hj;obtain⟨p,hp,rfl⟩:=hj;obtain⟨v,g1,g2⟩:=h.2.2 i z j p h1 hp;exact⟨v,g1,.pv _ _ g2⟩
theorem X9{G:TypeId->Option TI}(hG: ∀t ti,G t=some ti->zx P t ti){t e:TypeId}{ti te:TI}(ht:zx P t ti)(xr:ti.td= .slice e)(rD:G e=some te)
  (hi:qW w H ι Im) {nx:Nat} {X:Nat->Prop} (xt:Bd X H nx) (hX: ¬X nx)
  {a:Act} {E:vF} (hE: ∀t,RA w H ι Im (E.get t) (a.tmps.getD t undef)) (len:Nat) (parts:Array (Nat×Operand)) (bU:0<te.size) (hlen:len*te.size<=2^24)
  {es:List (List AV)} (hr:mo te.size (ev E) parts.toList (List.replicate len (te.zero.map .pv))=some es):
  ∃u w',(Instr.buildSlice t len (parts.map fun(i,x)=>(i,a.eval x))).run P w= .ok u w' /\
   mG X w H ι Im nx (.row nx es.length 0 es.length,[(nx,.yq te.size es)],nx+1) u w' :=by
 have tR:=hG _ _ rD;obtain⟨z,h1,h2,h3,h4⟩:=oA (w:=w) (Im:=Im) tR;have hzr:=Lk (H:=H) (ι:=ι) (Uy (w:=w) (Im:=Im) tR h2 h3 len);obtain⟨rs,g1,g2,g3,g4⟩:=ZD hE te.size parts.toList _ _ (by simp) hzr hr;have rR:es.length=len:=by simpa using g2
 have Z9:(parts.map fun(i,x)=>(i,a.eval x)).toList=parts.toList.map fun(i,x)=>(i,a.eval x):=by simp
 refine⟨.slice (some ⟨w.heap.size,0,none⟩) es.length es.length, { w with heap:=w.heap.push (.cells rs e) }, ?_,GB hi xt hX te.size es rs e (0,0) es.length _ rfl ⟨rfl,rfl⟩ (xE _) bU (by rw[g3,rR];simp) (xJ _) g4⟩;unfold Instr.buildSlice;simp only[ji,qv (ht.slice xr),gm,tR.size];rw[Z9];have Qf: ¬(len*te.size>2^24):=by omega
 by_cases h0:len*te.size=0
 ·simp only[h0]at g1 |-;have hz0:((Array.range 0).map fun x=>(#[]:Array Value)[x % (#[]:Array Value).size]!)=((Array.range 0).map (z.cells[· % z.cells.size]!)):=by simp
  simp only[Nat.reducePow,Nat.not_lt_zero,gt_iff_lt,if_false,Sem.run_pure,gm,if_true,ji,hz0,g1,rR];simp[newRow]
 simp only[Qf,if_false,Sem.run_pure,gm,h0,ji,h1,g1,rR];simp[newRow]
theorem KX{G:TypeId->Option TI}(hG: ∀t ti,G t=some ti->zx P t ti){t:TypeId}{ti:TI}(ht:zx P t ti)
  (hi:qW w H ι Im) {nx:Nat} {X:Nat->Prop} (xt:Bd X H nx) (hX: ∀γ,X γ->nx+1<=γ)
  {l c:AV} {vl vc:Value} (hl:RA w H ι Im l vl) (hc:RA w H ι Im c vc) {e:bY} (hr:tN ti.td G l c nx=some e):
  ∃u w',(Instr.makeSlice t vl vc).run P w= .ok u w' /\mG X w H ι Im nx e u w' :=by
 unfold tN at hr;split at hr;rotate_left
 ·cases hr
 rename_i el xr;split at hr;rotate_left
 ·cases hr
 rename_i te n n' rD hln hcn;split at hr<;>cases hr;rename_i hh;obtain⟨rfl,bU,wV⟩:=hh;have I6: ∀{x:AV}{v:Value}{m:Nat},RA w H ι Im x v->wW x=some m-> ∃k,v= .int k (m:Int):=by
  intro x v m hx hm;unfold wW at hm;split at hm
  ·rename_i k z;split at hm<;>cases hm;rename_i h0;cases hx with
   |pv _ _ h=>
    cases h;exact⟨k,by rw[Int.toNat_of_nonneg h0]⟩
  cases hm
 obtain⟨k1,rfl⟩:=I6 hl hln;obtain⟨k2,rfl⟩:=I6 hc hcn;have tR:=hG _ _ rD;obtain⟨i,z0,q1,q2,q3,q4,q5,q6⟩:=tR.info;obtain⟨z,h1,h2,h3,h4⟩:=oA (w:=w) (Im:=Im) tR;have hzr:=Uy (w:=w) (Im:=Im) tR h2 h3 n';simp only[qg,zB,decide_eq_true_eq]at wV;obtain⟨⟨r1,r2⟩,r3⟩:=wV;have hw0:IntKind.i64.wrap (n' :Int)=(n' :Int):=IntWalk.i64_in _ ⟨by omega,by omega⟩;have hb:i.bytes*n' <=2^46:=by rw[q3,Nat.mul_comm];exact r1
 have Qf: ¬(((i.bytes:Int)*(n' :Int))>2^48):=by
  have:((i.bytes*n' :Nat):Int)<=2^46:=by omega
  rw[Int.natCast_mul]at this;omega
 refine⟨.slice (some ⟨w.heap.size,0,none⟩) (List.replicate n' te.zero).length n', { w with heap:=w.heap.push (.cells ((Array.range (n' *te.size)).map (z.cells[· % z.cells.size]!)) el) }, ?_,XM hi xt (sR hX) te.size _ _ el (0,0) n' _ rfl ⟨rfl,rfl⟩ (xE _) bU (by simp) (by simp) hzr⟩;unfold Instr.makeSlice;have hneg: ¬((n' :Int)<0):=by omega
 simp only[ji,qv (ht.slice xr),gm,asInt,asIntOf,Sem.run_pure,uQ q1,hw0];have BE: ¬((n' :Int)>(n' :Int)):=by omega
 simp only[hneg,Qf,BE,decide_false,Bool.or_self,w9,if_false,Int.toNat_natCast,run_askRoom,gm,tR.size,ji];by_cases h0:n' *te.size=0
 ·have hz0:((Array.range 0).map fun x=>(#[]:Array Value)[x % (#[]:Array Value).size]!)=((Array.range 0).map (z.cells[· % z.cells.size]!)):=by simp
  simp only[h0,if_true,Sem.run_pure,gm,hz0,newRow,ji,run_newObj,List.length_replicate]
 simp only[h0,if_false,ji,h1,Sem.run_pure,gm,newRow,run_newObj,List.length_replicate]
end
section
variable [zN] {P:Program} {w:World} {H:qn} {ι:vG} {Im:Nat->Prop}
theorem w8.yu{w' :World}(h:w'.heap=w.heap)(E3:w'.os=w.os/\w'.output=w.output):w8 w H ι Im w' H ι Im where
 comp:=fun β b h=>⟨b,h,vV b _⟩
 im:=fun _ h=>h
 mr:=fun _ h=> .inl h
 bC:=fun β x z h hu=> .inr ⟨β,x,h,hu⟩
 ka:=fun _ _ _=>by rw[h]
 size:=by rw[h];exact xJ _
 io:=E3
theorem qW.yu{w' :World}(h:w'.heap=w.heap)(E3:w'.os=w.os/\w'.output=w.output)(hi:qW w H ι Im):qW w' H ι Im where
 mW:=fun β b hb=>(hi.mW β b hb).mono hi (w8.yu h E3) (fun _=>⟨rfl,fun _ _=>by rw[h]⟩)
 inj:=hi.inj
 im:=fun b hb=>by rw[h];exact hi.im b hb
 KH:=hi.KH
 HY:=zN.go hi.HY hi.W4 fun b _=>by rw[h]
 W4:=hi.W4
theorem RA.yu{w' :World}(h:w'.heap=w.heap)(E3:w'.os=w.os/\w'.output=w.output)(hi:qW w H ι Im){x:AV}{v:Value}(hx:RA w H ι Im x v):RA w' H ι Im x v:=hx.mono hi (w8.yu h E3)
theorem mS(hi:qW w H ι Im){x:AV}{v:Value}(hx:RA w H ι Im x v){mT:Nat}{src:List (List PV)}(h:vT x H=some (mT,src)):
  (Builtin.lenOf v).run P w= .ok src.length w/\
  ∀size,(mT=size\/src=[])-> ∃cs,(Builtin.firstCells size src.length v).run P w= .ok cs w/\cs.size=src.length*size/\xD w Im size src (cs[·]?):=by
 have empty: ∀(v:Value),(∃ a c,v= .slice (some a) 0 c)\/(∃ c,v= .slice none 0 c)->(Builtin.lenOf v).run P w= .ok ([]:List (List PV)).length w/\
   ∀size,∃ cs,(Builtin.firstCells size ([]:List (List PV)).length v).run P w= .ok cs w/\cs.size=([]:List (List PV)).length*size/\xD w Im size [] (cs[·]?):=by
  intro v hv;rcases hv with ⟨a,c,rfl⟩|⟨c,rfl⟩
  ·refine⟨by simp[Builtin.lenOf],fun size=>⟨#[], ?_,by simp,by simp[xD]⟩⟩;simp[Builtin.firstCells,loadCells,loadCellsFrom]
  exact⟨by simp[Builtin.lenOf],fun size=>⟨#[],by simp[Builtin.firstCells],by simp,by simp[xD]⟩⟩
 unfold vT at h;split at h
 ·rename_i qq sz es;cases h;cases hx with
  |pv _ _ h=>cases h with
   |cJ sz=>
    obtain⟨e1,e2⟩:=empty (.slice none 0 0) (.inr ⟨_,rfl⟩);exact⟨e1,fun size _=>e2 size⟩
   |sl _ _ b off cap vs oI Xi bO hc hf h sp Tn=>
    refine⟨by simp[Builtin.lenOf],fun size hs=>?_⟩;by_cases rR:src=[]
    ·subst rR;exact(empty _ (.inl ⟨_,_,rfl⟩)).2 size
    obtain rfl:=Tn rR;rcases hs with rfl|rfl
    ·refine⟨((List.range (src.length*mT)).map vs).toArray, ?_,by simp,bO,hf,fun i e j p vq hj=>?_⟩
     ·simp only[Builtin.firstCells];exact run_loadCells b off _ vs hc
     have xB:=(qF vq).1;have NX:=(qF hj).1;have he:=bO e (qX vq);have:(i+1)*mT<=src.length*mT:=mulR _ xB;rw[Nat.succ_mul]at this;refine⟨vs (i*mT+j), ?_,h i e j p vq hj⟩;simp only[List.getElem?_toArray,List.getElem?_map];rw[List.getElem?_range (by omega)];rfl
    exact absurd rfl rR
 ·cases h;cases hx with
  |aT a=>
   obtain⟨e1,e2⟩:=empty (.slice (some a) 0 0) (.inl ⟨_,_,rfl⟩);exact⟨e1,fun size _=>e2 size⟩
 ·rename_i β zF off n;split at h;rotate_left
  ·cases h
  rename_i qq sz es hb;split at h<;>cases h;rename_i xU;cases hx with
  |row _ _ _ _ _ b ho xQ hk hv hh=>
   rw[hb]at xQ;cases xQ;obtain⟨h1,h2⟩:=hh _ _ _ rfl xU;have hln:((es.drop off).take n).length=n:=by simp;omega
   cases hn:qq
   ·rw[hn]at h2 hb;simp only[w9,if_false]at h2;obtain⟨a,rfl,fR,dR,eX⟩:=h2;obtain⟨ab,ao,T5⟩:=a;simp only at fR dR eX;subst fR dR;refine⟨by rw[hln];simp[Builtin.lenOf],fun size hs=>?_⟩;by_cases UC:n=0
    ·subst UC;have:(es.drop off).take 0=[]:=by simp
     rw[this];exact(empty _ (.inl ⟨_,_,rfl⟩)).2 size
    obtain⟨vs,elem,fz,g1,g2,g3,g4,g5,g6,g7,g8⟩:=hi.row hb;have SK:=eX (by omega);subst SK;have eN:mT=size:=by
     rcases hs with h|h
     ·exact h
     rw[h]at hln;simp at hln;omega
    subst eN;have mq: ∀(i:Nat) e,((es.drop off).take n)[i]? =some e->i<n/\es[off+i]? =some e:=by
     intro i e W7;have:=(qF W7).1;have sE:i<n:=by omega
     rw[List.getElem?_take_of_lt sE,List.getElem?_drop]at W7;exact⟨sE,W7⟩
    have hmul:off*mT+n*mT<=es.length*mT:=by rw[<- Nat.add_mul];exact mulR _ h1
    have hmul2:es.length*mT<=(ι β).cap*mT:=mulR _ g5;rw[hln];refine⟨((List.range (n*mT)).map fun j=>(vs[off*mT+j]?).getD undef).toArray, ?_,by simp,fun e he=>?_,fun i e j p W7 hj=>?_,fun i e j p W7 hj=>?_⟩
    ·simp only[Builtin.firstCells];refine run_loadCells _ _ _ _ fun j hj=>?_;rw[ux g1];have:off*mT+j<vs.size:=by omega
     simp[this]
    ·exact g6 e (List.mem_of_mem_drop (List.mem_of_mem_take he))
    ·exact g7 _ e j p (mq i e W7).2 hj
    obtain⟨sE,E2⟩:=mq i e W7;obtain⟨v,k1,k2⟩:=g8 _ e j p E2 hj;have NX:=(qF hj).1;have he:=g6 e (qX E2);have:(i+1)*mT<=n*mT:=mulR _ sE;rw[Nat.succ_mul]at this;refine⟨v, ?_,k2⟩;have e1:off*mT+(i*mT+j)=(off+i)*mT+j:=by rw[Nat.add_mul];omega
    simp only[List.getElem?_toArray,List.getElem?_map];rw[List.getElem?_range (by omega)];simp only[Option.map_some,e1,k1,Option.getD_some]
   rw[hn]at h2 hb;have rR:es=[]:=hi.mW β _ hb;subst rR;simp only[if_true]at h2;subst h2;have:(([]:List (List PV)).drop off).take n=[]:=by simp
   rw[this];obtain⟨e1,e2⟩:=empty (.slice none 0 0) (.inr ⟨_,rfl⟩);exact⟨e1,fun size _=>e2 size⟩
 ·rename_i s;cases h;cases hx with
  |pv _ _ h=>cases h with
   |str l=>
    refine⟨by simp[Builtin.lenOf,ByteArray.size],fun size hs=>?_⟩;refine⟨(s.map fun b=>Value.int .u8 b.toNat).toArray, ?_, ?_, ?_⟩
    ·simp only[Builtin.firstCells,List.length_map];have:(ByteArray.mk ⟨s⟩).extract 0 s.length=⟨⟨s⟩⟩:=by
      apply ByteArray.ext;simp
     rw[this];simp
    ·rcases hs with rfl|h
     ·simp
     have:s=[]:=by simpa using h
     subst this;simp
    rcases hs with rfl|h
    ·refine⟨fun e he=>?_,fun i e j p vq hj=>?_,fun i e j p vq hj=>?_⟩
     ·simp only[List.mem_map]at he;obtain⟨b,_,rfl⟩:=he;rfl
     ·simp only[List.getElem?_map,yi]at vq;obtain⟨b,_,rfl⟩:=vq;cases j with
      |zero=>simp at hj;subst hj;rfl
      |succ j=>simp at hj
     simp only[List.getElem?_map,yi]at vq;obtain⟨b,hb,rfl⟩:=vq;cases j with
     |zero=>
      simp at hj;subst hj;exact⟨.int .u8 b.toNat,by simp[hb],.int _ _⟩
     |succ j=>simp at hj
    have:s=[]:=by simpa using h
    subst this;simp[xD]
 cases h
end
section
variable [zN] {P:Program} {w:World} {H:qn} {ι:vG} {Im:Nat->Prop}
theorem WU(Zh:Nat): ∀(r c:Nat),c<=Zh+(Zh+768) / 4->Builtin.growBy Zh r c<=Zh+(Zh+768) / 4
 |0,c,h=>h
 |r+1,c,h=>by
  simp only[Builtin.growBy];split
  ·exact h
  exact WU Zh r _ (by omega)
theorem nextslicecap_le{zm cap:Nat}(h:cap<zm):Builtin.nextslicecap zm cap<=2*zm+192:=by
 unfold Builtin.nextslicecap;split
 ·omega
 split
 ·omega
 have:=WU zm 4 cap (by omega);omega
theorem Ba{zm bytes:Nat}(h:qg zm bytes=true){cap:Nat}(hc:cap<zm):
  Builtin.nextslicecap zm cap*bytes<=2^48/\(zm:Int)<=IntKind.i64.max:=by
 unfold qg at h;simp only[zB,decide_eq_true_eq]at h;obtain⟨⟨h1,h2⟩,h3⟩:=h;refine⟨?_, ?_⟩
 ·have:=nextslicecap_le hc
  calc Builtin.nextslicecap zm cap*bytes<=(2*zm+192)*bytes:=mulR _ this
   _=2*(zm*bytes)+192*bytes:=by rw[Nat.add_mul,Nat.mul_assoc]
   _<=2^48:=by omega
 have:IntKind.i64.max=9223372036854775807:=by decide
 rw[this];omega
theorem xD.append{sz:Nat}{lv es2:List (List PV)}{Sq Sr rest:Array Value}(h1:xD w Im sz lv (Sq[·]?))(h2:xD w Im sz es2 (Sr[·]?))
  (hl:Sq.size=lv.length*sz):xD w Im sz (lv++es2) ((Sq++Sr++rest)[·]?):=by
 have Yo: ∀(i:Nat) e(j:Nat) p,lv[i]? =some e->e[j]? =some p->i*sz+j<Sq.size:=by
  intro i e j p hi hj;have xB:=(qF hi).1;have NX:=(qF hj).1;have he:=h1.1 e (qX hi);have:(i+1)*sz<=lv.length*sz:=mulR _ xB;rw[Nat.succ_mul]at this;omega
 have split: ∀(i:Nat) e,(lv++es2)[i]? =some e->(lv[i]? =some e)\/(lv.length<=i/\es2[i-lv.length]? =some e):=by
  intro i e h;rw[List.getElem?_append]at h;split at h
  ·exact .inl h
  exact .inr ⟨by omega,h⟩
 refine⟨fun e he=>?_,fun i e j p hi hj=>?_,fun i e j p hi hj=>?_⟩
 ·rcases List.mem_append.1 he with h|h
  ·exact h1.1 e h
  exact h2.1 e h
 ·rcases split i e hi with h|⟨_,h⟩
  ·exact h1.2.1 i e j p h hj
  exact h2.2.1 _ e j p h hj
 rcases split i e hi with h|⟨hle,h⟩
 ·obtain⟨v,g1,g2⟩:=h1.2.2 i e j p h hj;refine⟨v, ?_,g2⟩;have:=Yo i e j p h hj;simp only[Array.append_assoc];rw[Array.getElem?_append_left this];exact g1
 obtain⟨v,g1,g2⟩:=h2.2.2 _ e j p h hj;refine⟨v, ?_,g2⟩;have e1:i*sz+j=Sq.size+((i-lv.length)*sz+j):=by
  rw[hl];have:i=lv.length+(i-lv.length):=by omega
  conv=>lhs;rw[this,Nat.add_mul]
  omega
 have xB:(i-lv.length)*sz+j<Sr.size:=by
  rcases Nat.lt_or_ge ((i-lv.length)*sz+j) Sr.size with h|h
  ·exact h
  have:Sr[(i-lv.length)*sz+j]? =none:=Array.getElem?_eq_none h;simp only[this]at g1;cases g1
 show(Sq++Sr++rest)[i*sz+j]? =some v;rw[e1,Array.getElem?_append_left (by simp;omega),Array.getElem?_append_right (by omega)];simpa using g1
theorem gv.append{sz:Nat}{lv es2:List (List AV)}{Sq Sr rest:Array Value}(h1:gv w H ι Im sz lv (Sq[·]?))(h2:gv w H ι Im sz es2 (Sr[·]?))
  (hl:Sq.size=lv.length*sz):gv w H ι Im sz (lv++es2) ((Sq++Sr++rest)[·]?):=by
 have Yo: ∀(i:Nat) e(j:Nat) p,lv[i]? =some e->e[j]? =some p->i*sz+j<Sq.size:=by
  intro i e j p hi hj;have xB:=(qF hi).1;have NX:=(qF hj).1;have he:=h1.1 e (qX hi);have:(i+1)*sz<=lv.length*sz:=mulR _ xB;rw[Nat.succ_mul]at this;omega
 have split: ∀(i:Nat) e,(lv++es2)[i]? =some e->(lv[i]? =some e)\/(lv.length<=i/\es2[i-lv.length]? =some e):=by
  intro i e h;rw[List.getElem?_append]at h;split at h
  ·exact .inl h
  exact .inr ⟨by omega,h⟩
 refine⟨fun e he=>?_,fun i e j p hi hj=>?_,fun i e j p hi hj=>?_⟩
 ·rcases List.mem_append.1 he with h|h
  ·exact h1.1 e h
  exact h2.1 e h
 ·rcases split i e hi with h|⟨_,h⟩
  ·exact h1.2.1 i e j p h hj
  exact h2.2.1 _ e j p h hj
 rcases split i e hi with h|⟨hle,h⟩
 ·obtain⟨v,g1,g2⟩:=h1.2.2 i e j p h hj;refine⟨v, ?_,g2⟩;have:=Yo i e j p h hj;simp only[Array.append_assoc];rw[Array.getElem?_append_left this];exact g1
 obtain⟨v,g1,g2⟩:=h2.2.2 _ e j p h hj;refine⟨v, ?_,g2⟩;have e1:i*sz+j=Sq.size+((i-lv.length)*sz+j):=by
  rw[hl];have:i=lv.length+(i-lv.length):=by omega
  conv=>lhs;rw[this,Nat.add_mul]
  omega
 have xB:(i-lv.length)*sz+j<Sr.size:=by
  rcases Nat.lt_or_ge ((i-lv.length)*sz+j) Sr.size with h|h
  ·exact h
  have:Sr[(i-lv.length)*sz+j]? =none:=Array.getElem?_eq_none h;simp only[this]at g1;cases g1
 show(Sq++Sr++rest)[i*sz+j]? =some v;rw[e1,Array.getElem?_append_left (by simp;omega),Array.getElem?_append_right (by omega)];simpa using g1
def kQ(w:World):World:={ w with drawn:=w.drawn+1 }
theorem hZ{ts tx e:TypeId}{ti te eJ:TI}(Qj:zx P ts ti)(xr:ti.td= .slice e)(rD:zx P e te)(Qk:zx P tx eJ)
  (oh:(∃ e',eJ.td= .slice e')\/eJ.td= .string) (tt:TypeId) (base:Option Addr) (n cap k:Nat) (v:Value)
  (hlen:(Builtin.lenOf v).run P w= .ok k w) (BE:cap<n+k) (wV:qg (n+k) te.bytes=true)
  (Wf new:Array Value)
  (ho:(Builtin.firstCells te.size n (.slice base n cap)).run P (kQ w)= .ok Wf (kQ w))
  (hn:(Builtin.firstCells te.size k v).run P (kQ w)= .ok new (kQ w)):
  ∃(cI:Nat)(rest:Array Value),n+k<=cI/\rest.size=(cI-(n+k))*te.size/\
   (Builtin.append_ #[ts,tx] tt #[.slice base n cap,v]).run P w=
    .ok (.slice (some ⟨w.heap.size,0,none⟩) (n+k) cI) { kQ w with heap:=w.heap.push (.cells (Wf++new++rest) e) }:=by
 obtain⟨i,z,q1,q2,q3,q4,q5,q6⟩:=rD.info;obtain⟨r1,r2⟩:=Ba wV BE;have hzl:z.cells.size=te.size:=by
  have:=(QB (w:=w) (Im:=fun _=>True) q5).1;have:=rD.len;simp at*
  omega
 let nc:Nat:=Question.cut (.appendCap (n+k) cap e) (w.tape w.drawn (.appendCap (n+k) cap e))
 have hnc:n+k<=nc:=by simp[nc,Question.cut]
 refine⟨nc,Builtin.zeroCells z.cells (nc-(n+k)),hnc,by simp[Builtin.zeroCells,hzl], ?_⟩;have hzero:(zeroValue e).run P (kQ w)= .ok z (kQ w):=by simp[zeroValue,uQ q1,q4]
 have hno1: ¬(n+k<=cap):=by omega
 have hno3: ¬(Builtin.nextslicecap (n+k) cap*te.bytes>2^48):=by omega
 have hno2: ¬(((n+k:Nat):Int)>IntKind.i64.max):=by omega
 have htxx:P.underlying tx=some .string\/ ∃e',P.underlying tx=some (.slice e'):=by
  rcases oh with ⟨e',h⟩|h
  ·exact .inr ⟨_,Qk.slice h⟩
  exact .inl (Qk.string h)
 have W5:(choose (Question.appendCap (n+k) cap e)).run P w= .ok nc (kQ w):=by
  simp[choose,Sem.run,Question.forced,nc,kQ]
 have i6: ∀w',(typeInfo e).run P w' = .ok i w' :=fun w' =>uQ q1;rw[<- q3]at hno3;unfold Builtin.append_;rcases htxx with hd|⟨e',hd⟩;all_goals
  simp only[List.getElem?_toArray,List.getElem?_cons_zero,List.getElem?_cons_succ,ji,qv (Qj.slice xr),gm,rD.size,qv hd,Sem.run_pure,hlen,
   w9,if_false,hno1,i6,hno2,false_and,hno3,W5,run_askRoom,ho,Bool.not_false,if_true,hn,hzero,newRow,run_newObj]
  rfl
theorem run_append_fits{ts tx e:TypeId}{ti te eJ:TI}(Qj:zx P ts ti)(xr:ti.td= .slice e)(rD:zx P e te)(Qk:zx P tx eJ)
  (oh:(∃ e',eJ.td= .slice e')\/eJ.td= .string) (tt:TypeId) (base:Option Addr) (n cap k:Nat) (v:Value)
  (hlen:(Builtin.lenOf v).run P w= .ok k w) (hle:n+k<=cap) (new:Array Value) (hnew:(Builtin.firstCells te.size k v).run P w= .ok new w) (w' :World)
  (XF: ∀a,base=some a->(storeCells (a.add (n*te.size)) new.toList).run P w= .ok () w') (WY:base=none->w' =w):
  (Builtin.append_ #[ts,tx] tt #[.slice base n cap,v]).run P w= .ok (.slice base (n+k) cap) w' :=by
 have htxx:P.underlying tx=some .string\/ ∃e',P.underlying tx=some (.slice e'):=by
  rcases oh with ⟨e',h⟩|h
  ·exact .inr ⟨_,Qk.slice h⟩
  exact .inl (Qk.string h)
 unfold Builtin.append_;rcases htxx with hd|⟨e',hd⟩;all_goals
  simp only[List.getElem?_toArray,List.getElem?_cons_zero,List.getElem?_cons_succ,ji,qv (Qj.slice xr),gm,rD.size,qv hd,Sem.run_pure,hlen,
   w9,if_false,hle,Bool.not_false,if_true,hnew]
  cases base with
  |none=>rw[WY rfl];rfl
  |some a=>simp only[ji,XF a rfl,gm,Sem.run_pure]
theorem ZI{ts tx e:TypeId}{ti te eJ:TI}(Qj:zx P ts ti)(xr:ti.td= .slice e)(rD:zx P e te)(Qk:zx P tx eJ)
  (oh:(∃ e',eJ.td= .slice e')\/eJ.td= .string) (tt:TypeId) (hi:qW w H ι Im) {y:AV} {vy:Value} (hy:RA w H ι Im y vy)
  {mT:Nat} {src:List (List PV)} (nO:vT y H=some (mT,src)) (bO:mT=te.size\/src=[]) (jv:src≠[]) (wV:qg src.length te.bytes=true)
  (base:Option Addr):
  ∃(cI:Nat)(w' :World)(cs:Array Value),src.length<=cI/\(w'.heap=w.heap.push (.cells cs e)/\w'.os=w.os/\w'.output=w.output)/\cs.size=cI*te.size/\xD w Im te.size src (cs[·]?)/\
   (Builtin.append_ #[ts,tx] tt #[.slice base 0 0,vy]).run P w= .ok (.slice (some ⟨w.heap.size,0,none⟩) src.length cI) w' :=by
 obtain⟨l1,l2⟩:=mS (P:=P) hi hy nO;have bU:0<src.length:=List.length_pos_iff.2 jv;have hw:(kQ w).heap=w.heap:=rfl;obtain⟨new,k1,k2,k3⟩:=(mS (P:=P) (hi.yu hw ⟨rfl,rfl⟩) (hy.yu hw ⟨rfl,rfl⟩ hi) nO).2 te.size bO;obtain⟨nc,rest,g1,g3,g4⟩:=hZ (w:=w) Qj xr rD Qk oh tt base 0 0 src.length vy l1 (by omega) (by simpa using wV) #[] new
  (by
   cases base with
   |none=>simp[Builtin.firstCells]
   |some a=>simp[Builtin.firstCells,loadCells,loadCellsFrom]) k1
 have Xl:xD (kQ w) Im te.size [] (((#[]:Array Value))[·]?):=by simp[xD]
 have cD:=xD.append (rest:=rest) Xl k3 (by simp);refine⟨nc, { kQ w with heap:=w.heap.push (.cells (new++rest) e) },_,by omega,⟨rfl,rfl,rfl⟩, ?_, ?_,by simpa using g4⟩
 ·simp only[Array.size_append,k2,g3];simp only[Nat.zero_add,Array.size_empty];rw[<- Nat.add_mul];congr 1;omega
 have:=cD.mono (w' :=w) (jA:=Im) (fun _ h=>h) (fun b _=>by rw[hw]);simpa using this
theorem OZ{α:Type}(es src:List α){n:Nat}(h:n=es.length):es.take n++src++es.drop (n+src.length)=es++src:=by
 subst h;simp[List.drop_eq_nil_of_le]
theorem rz(hi:qW w H ι Im){x:AV}{v:Value}(hx:RA w H ι Im x v){mT:Nat}{src:List (List AV)}(h:dE x H=some (mT,src)):
  (Builtin.lenOf v).run P w= .ok src.length w/\
  ∃cs,(Builtin.firstCells mT src.length v).run P w= .ok cs w/\cs.size=src.length*mT/\gv w H ι Im mT src (cs[·]?):=by
 unfold dE at h;split at h;rotate_left
 ·cases h
 rename_i β zF off n;split at h;rotate_left
 ·cases h
 rename_i sz es hb;split at h<;>cases h;rename_i xU;cases hx with
 |row _ _ _ _ _ b ho xQ hk hv hh=>
 rw[hb]at xQ;cases xQ;obtain⟨h1,h2⟩:=hh _ _ _ rfl xU;have hln:((es.drop off).take n).length=n:=by simp;omega
 simp only[w9,if_false]at h2;obtain⟨a,rfl,fR,dR,eX⟩:=h2;obtain⟨ab,ao,T5⟩:=a;simp only at fR dR eX;subst fR dR;refine⟨by rw[hln];simp[Builtin.lenOf], ?_⟩;by_cases UC:n=0
 ·subst UC;refine⟨#[], ?_,by simp,by simp[gv]⟩;simp[Builtin.firstCells,loadCells,loadCellsFrom]
 obtain⟨vs,elem,fz,g1,g2,g3,g4,g5,g6,g7,g8⟩:=hi.yq hb;have SK:=eX (by omega);subst SK;have mq: ∀(i:Nat) e,((es.drop off).take n)[i]? =some e->i<n/\es[off+i]? =some e:=by
  intro i e W7;have:=(qF W7).1;have sE:i<n:=by omega
  rw[List.getElem?_take_of_lt sE,List.getElem?_drop]at W7;exact⟨sE,W7⟩
 have hmul:off*mT+n*mT<=es.length*mT:=by rw[<- Nat.add_mul];exact mulR _ h1
 have hmul2:es.length*mT<=(ι β).cap*mT:=mulR _ g5;rw[hln];refine⟨((List.range (n*mT)).map fun j=>(vs[off*mT+j]?).getD undef).toArray, ?_,by simp,fun e he=>?_,fun i e j p W7 hj=>?_,fun i e j p W7 hj=>?_⟩
 ·simp only[Builtin.firstCells];refine run_loadCells _ _ _ _ fun j hj=>?_;rw[ux g1];have:off*mT+j<vs.size:=by omega
  simp[this]
 ·exact g6 e (List.mem_of_mem_drop (List.mem_of_mem_take he))
 ·exact g7 _ e j p (mq i e W7).2 hj
 obtain⟨sE,E2⟩:=mq i e W7;obtain⟨v,k1,k2⟩:=g8 _ e j p E2 hj;have NX:=(qF hj).1;have he:=g6 e (qX E2);have:(i+1)*mT<=n*mT:=mulR _ sE;rw[Nat.succ_mul]at this;refine⟨v, ?_,k2⟩;have e1:off*mT+(i*mT+j)=(off+i)*mT+j:=by rw[Nat.add_mul];omega
 simp only[List.getElem?_toArray,List.getElem?_map];rw[List.getElem?_range (by omega)];simp only[Option.map_some,e1,k1,Option.getD_some]
theorem ek{ts tx e:TypeId}{ti te eJ:TI}(Qj:zx P ts ti)(xr:ti.td= .slice e)(rD:zx P e te)(Qk:zx P tx eJ)
  (oh:(∃ e',eJ.td= .slice e')\/eJ.td= .string) (tt:TypeId) (hi:qW w H ι Im) {y:AV} {vy:Value} (hy:RA w H ι Im y vy)
  {src:List (List AV)} (nO:dE y H=some (te.size,src)) (jv:src≠[]) (wV:qg src.length te.bytes=true):
  ∃(cI:Nat)(w' :World)(cs:Array Value),src.length<=cI/\(w'.heap=w.heap.push (.cells cs e)/\w'.os=w.os/\w'.output=w.output)/\cs.size=cI*te.size/\gv w H ι Im te.size src (cs[·]?)/\
   (Builtin.append_ #[ts,tx] tt #[.slice none 0 0,vy]).run P w= .ok (.slice (some ⟨w.heap.size,0,none⟩) src.length cI) w' :=by
 obtain⟨l1,l2⟩:=rz (P:=P) hi hy nO;have bU:0<src.length:=List.length_pos_iff.2 jv;have hw:(kQ w).heap=w.heap:=rfl;have vq:=hi.yu hw ⟨rfl,rfl⟩;obtain⟨new,k1,k2,k3⟩:=(rz (P:=P) vq (hy.yu hw ⟨rfl,rfl⟩ hi) nO).2;obtain⟨nc,rest,g1,g3,g4⟩:=hZ (w:=w) Qj xr rD Qk oh tt none 0 0 src.length vy l1 (by omega) (by simpa using wV) #[] new (by simp[Builtin.firstCells]) k1;have Xl:gv (kQ w) H ι Im te.size [] (((#[]:Array Value))[·]?):=by simp[gv]
 have cD:=gv.append (rest:=rest) Xl k3 (by simp);refine⟨nc, { kQ w with heap:=w.heap.push (.cells (new++rest) e) },_,by omega,⟨rfl,rfl,rfl⟩, ?_, ?_,by simpa using g4⟩
 ·simp only[Array.size_append,k2,g3];simp only[Nat.zero_add,Array.size_empty];rw[<- Nat.add_mul];congr 1;omega
 have:=cD.mono (w' :=w) (H' :=H) (ι' :=ι) (jA:=Im) vq (w8.yu (w:=kQ w) (w' :=w) rfl ⟨rfl,rfl⟩);simpa using this
theorem H8{ts tx e:TypeId}{ti te eJ:TI}(Qj:zx P ts ti)(xr:ti.td= .slice e)(rD:zx P e te)(Qk:zx P tx eJ)
  (oh:(∃ e',eJ.td= .slice e')\/eJ.td= .string) (tt:TypeId) (hi:qW w H ι Im) {nx:Nat} {X:Nat->Prop} (xt:Bd X H nx)
  {x y:AV} {vx vy:Value} (hx:RA w H ι Im x vx) (hy:RA w H ι Im y vy) {r:bY} (hr:bx te x y H nx=some r) (hX: ∀γ,X γ->r.2.2<=γ):
  ∃u w',(Builtin.append_ #[ts,tx] tt #[vx,vy]).run P w= .ok u w' /\mG X w H ι Im nx r u w' :=by
 unfold bx at hr;split at hr
 ·cases hr
 rename_i mT src nO;split at hr;rotate_left
 ·cases hr
 rename_i hc;obtain⟨rfl,bU⟩:=hc;obtain⟨l1,cs,f1,f2,f3⟩:=rz (P:=P) hi hy nO;split at hr
 ·cases hx with
  |pv _ _ h=>cases h with
   |cJ=>
    unfold ej at hr;split at hr
    ·cases hr
    split at hr<;>cases hr;rename_i wV;obtain⟨nc,w',DC,g1,g2,g3,g4,g5⟩:=ek Qj xr rD Qk oh tt hi hy nO (by simp) wV;exact⟨_,w',g5,GB hi xt (sR hX) te.size _ DC e (0,0) nc w' g2.1 g2.2 (xE _) bU g3 g1 g4⟩
 ·rename_i β zF off n;split at hr
  ·rename_i sz es hb;split at hr;rotate_left
   ·cases hr
   rename_i hc;obtain⟨xU,cC,hn⟩:=hc;subst cC hn;cases hx with
   |row _ _ _ _ _ b ho xQ hk hv hh=>
   rw[hb]at xQ;cases xQ;obtain⟨h1,h2⟩:=hh _ _ _ rfl xU;simp only[if_true]at h2;subst h2;have rR:es=[]:=hi.mW β _ hb;subst rR;unfold ej at hr;split at hr
   ·cases hr
   rename_i a0 l0;split at hr<;>cases hr;rename_i wV;obtain⟨nc,w',DC,g1,g2,g3,g4,g5⟩:=ek Qj xr rD Qk oh tt hi hy nO (by simp) wV;refine⟨_,w',g5,jj ι β ⟨w.heap.size,nc,[]⟩, ?_⟩;have key:=qW.put (Qf:=TG hb rfl) hi (w' :=w') β (.yq te.size (a0::l0)) ⟨w.heap.size,nc,[]⟩ (fun x hx=>by rw[hb]at hx;cases hx;simp[xi,qC.sh,Pl.ka])
    ⟨by rw[g2.1];simp,g2.2⟩ (fun b' xQ _=>by rw[g2.1];simp[Array.getElem?_push,Nat.ne_of_lt xQ]) (fun _=> .inl (xJ _)) (fun he=>by
     obtain⟨k1,k2,k3⟩:=g4.mono hi he
     exact⟨DC,e,(0,0),by simp[g2],xE _,by simp[g3],bU,by simpa using g1,k1,k2,k3⟩)
   refine⟨key.1,key.2, ?_,xJ _,ki xt (xJ _) (xt β _ hb)⟩;have hg:(qS [(β,qC.yq te.size (a0::l0))] H).get β=some (.yq te.size (a0::l0)):=by simp[qS,qn.qZ]
   refine .row β _ 0 _ _ _ rfl hg (fun _=>⟨_,_,_,rfl⟩) (fun _ _ _ e=>by cases e;exact xJ _) fun _ _ _ e _=>?_;cases e;refine⟨by simp, ?_⟩;simp only[w9,if_false];exact⟨⟨w.heap.size,0,none⟩,by simp,rfl,by simp,fun _=>by simp⟩
  ·rename_i sz es hb;split at hr<;>cases hr;rename_i hc;obtain⟨xU,rfl,rfl,rfl,wV⟩:=hc;have C3:=hx;cases hx with
   |row _ _ _ _ _ b ho xQ hk hv hh=>
   rw[hb]at xQ;cases xQ;obtain⟨h1,h2⟩:=hh _ _ _ rfl xU;simp only[w9,if_false]at h2;obtain⟨a,rfl,fR,dR,eX⟩:=h2;obtain⟨ab,ao,T5⟩:=a;simp only at fR dR eX;subst fR dR;obtain⟨vs,elem,fz,g1,g2,g3,g4,g5,g6,g7,g8⟩:=hi.yq hb;have hg:(qS [(β,qC.yq te.size (es++src))] H).get β=some (.yq te.size (es++src)):=by simp[qS,qn.qZ]
   have hspl: ∀(i:Nat) e0,(es++src)[i]? =some e0->(i<es.length/\es[i]? =some e0)\/(es.length<=i/\src[i-es.length]? =some e0):=by
    intro i e0 h;rw[List.getElem?_append]at h;split at h
    ·exact .inl ⟨by assumption,h⟩
    exact .inr ⟨by omega,h⟩
   by_cases pB:es.length+src.length<=(ι β).cap
   ·
    by_cases hs:src=[]
    ·subst hs;have AU:cs.size=0:=by rw[f2];simp
     have lW:cs.toList=[]:=by simpa using AU
     have JL:=run_append_fits (w' :=w) Qj xr rD Qk oh tt (some ⟨(ι β).b,ao,none⟩) es.length ((ι β).cap-0) 0 vy l1 (by simpa using pB) cs f1
      (fun a ha=>by rw[lW];rfl) (fun h=>by cases h)
     refine⟨_,w,JL,jj ι β (ι β), ?_⟩;simp only[List.append_nil]at hg |-;have key:=qW.put (Qf:=TG hb rfl) hi (w' :=w) β (.yq te.size es) (ι β) (fun x hx=>by rw[hb]at hx;cases hx;exact vV _ _)
      ⟨xJ _,rfl,rfl⟩ (fun _ _ _=>rfl) (fun _=> .inr ⟨_,hb,rfl,rfl⟩) (fun bM=>(hi.mW β _ hb).mono hi bM (fun _=>⟨by simp,fun _ _=>rfl⟩))
     refine⟨key.1,key.2, ?_,xJ _,ki xt (xJ _) (xt β _ hb)⟩;have:=C3.mono hi key.2;rw[xU]at this;exact this
    have SK:ao=0:=by
     have:=List.length_pos_iff.2 hs;have:=eX (by omega);omega
    subst SK;have Z7: ∀x∈cs.toList,rY x=true:=by
     intro x hx;obtain⟨m,hm⟩:=jz hx;have JH:m<src.length*te.size:=by
      have:=(qF hm).1;simp at this;omega
     have hdiv:m / te.size<src.length:=Nat.div_lt_of_lt_mul (by rwa[Nat.mul_comm]);have hmod:m % te.size<te.size:=Nat.mod_lt _ bU;obtain⟨e0,KG⟩: ∃e0,src[m / te.size]? =some e0:=⟨src[m / te.size],by simp⟩;have Yr:=f3.1 e0 (qX KG);obtain⟨p0,Lt⟩: ∃p0,e0[m % te.size]? =some p0:=⟨e0[m % te.size]'(by omega),by simp⟩;obtain⟨v0,q1,q2⟩:=f3.2.2 _ e0 _ p0 KG Lt;have:m / te.size*te.size+m % te.size=m:=by rw[Nat.mul_comm];exact Nat.div_add_mod m te.size
     simp only[this]at q1;have:x=v0:=by
      have h0:cs[m]? =some x:=by simpa using hm
      rw[h0]at q1;exact Option.some.inj q1
     subst this;exact q2.rY (f3.2.1 _ e0 _ p0 KG Lt)
    have hmul:es.length*te.size+src.length*te.size<=vs.size:=by
     rw[g3,<- Nat.add_mul];exact mulR _ pB
    obtain⟨w',q1,q2,q3,dG,q4,q5,q6⟩:=wQ (P:=P) (ι β).b (es.length*te.size) elem fz cs.toList 0 w vs g1 g2 (by simp[f2];omega) Z7;have JL:=run_append_fits (w' :=w') Qj xr rD Qk oh tt (some ⟨(ι β).b,0,none⟩) es.length ((ι β).cap-0) src.length vy l1 (by omega) cs f1
     (fun a ha=>by cases ha;rw[add_plain,Nat.zero_add];exact q1) (fun h=>by cases h)
    refine⟨_,w',JL,jj ι β (ι β), ?_⟩;have key:=qW.put (Qf:=TG hb rfl) hi (w' :=w') β (.yq te.size (es++src)) (ι β)
     (fun x hx=>by
      rw[hb]at hx
      cases hx
      simp only[xi,qC.sh]
      exact⟨by simp,fun _=>⟨by simp,fun _=>⟨by simp,Pl.ot _⟩⟩⟩)
     ⟨by omega,q2.2⟩ (fun b' _ jv=>q3 b' (fun e=>jv _ hb rfl e.symm)) (fun _=> .inr ⟨_,hb,rfl,rfl⟩) (fun bM=>by
      refine⟨dG,elem,fz,by simpa using q4,by rw[q5];exact g2,by simp[q5,g3],bU,by simp only[jT,List.length_append];omega, ?_, ?_, ?_⟩
      ·intro e0 KG
       rcases List.mem_append.1 KG with h|h
       ·exact g6 e0 h
       exact f3.1 e0 h
      ·intro i e0 j p vq hj
       rcases hspl i e0 vq with ⟨_,h⟩|⟨_,h⟩
       ·exact g7 _ e0 j p h hj
       exact f3.2.1 _ e0 j p h hj
      intro i e0 j p vq hj
      have NX:=(qF hj).1
      rw[q6]
      simp only[Nat.add_zero,Array.length_toList,f2]
      rcases hspl i e0 vq with ⟨xB,h⟩|⟨hge,h⟩
      ·obtain⟨v0,w1,w2⟩:=g8 _ e0 j p h hj
       have Yr:=g6 e0 (qX h)
       have:(i+1)*te.size<=es.length*te.size:=mulR _ xB
       rw[Nat.succ_mul]at this
       rw[if_neg (by omega)]
       exact⟨v0,w1,w2.mono hi bM⟩
      obtain⟨v0,w1,w2⟩:=f3.2.2 _ e0 j p h hj
      have Yr:=f3.1 e0 (qX h)
      have fC:=(qF h).1
      have e1:i*te.size+j-es.length*te.size=(i-es.length)*te.size+j:=by
       have:i=es.length+(i-es.length):=by omega
       conv=>lhs;rw[this,Nat.add_mul]
       omega
      have e2:es.length*te.size<=i*te.size:=mulR _ hge
      have e3:(i+1)*te.size<=(es.length+src.length)*te.size:=mulR _ (by omega)
      rw[Nat.succ_mul,Nat.add_mul]at e3
      rw[if_pos ⟨by omega,by omega⟩,e1]
      exact⟨v0,by simpa using w1,w2.mono hi bM⟩)
    refine⟨key.1,key.2, ?_,xJ _,ki xt (xJ _) (xt β _ hb)⟩;refine .row β _ 0 _ _ _ rfl hg (fun _=>⟨_,_,_,rfl⟩) (fun _ _ _ e=>by cases e;exact xJ _) fun _ _ _ e _=>?_;cases e;refine⟨by simp, ?_⟩;simp only[w9,if_false,List.length_append];exact⟨⟨(ι β).b,0,none⟩,by simp,rfl,by simp,fun _=>by simp⟩
   
   have hw:(kQ w).heap=w.heap:=rfl;have vq:=hi.yu hw ⟨rfl,rfl⟩;have Ej:dE (.row β zF 0 es.length) H=some (te.size,es):=by
    simp[dE,hb,xU]
   obtain⟨Wf,k1,k2,k3⟩:=(rz (P:=P) vq (C3.yu hw ⟨rfl,rfl⟩ hi) Ej).2;obtain⟨new,m1,m2,m3⟩:=(rz (P:=P) vq (hy.yu hw ⟨rfl,rfl⟩ hi) nO).2;obtain⟨nc,rest,r1,r2,r3⟩:=hZ (w:=w) Qj xr rD Qk oh tt (some ⟨(ι β).b,ao,none⟩) es.length ((ι β).cap-0) src.length vy l1 (by omega) wV Wf new k1 m1;have cD:=gv.append (rest:=rest) k3 m3 (by rw[k2]);have Eh:=cD.mono (w' :=w) (H' :=H) (ι' :=ι) (jA:=Im) vq (w8.yu (w:=kQ w) (w' :=w) rfl ⟨rfl,rfl⟩);refine⟨_,_,r3,jj ι β ⟨w.heap.size,nc,[]⟩, ?_⟩;have key:=qW.put (Qf:=TG hb rfl) hi (w' :={ kQ w with heap:=w.heap.push (.cells (Wf++new++rest) e) }) β (.yq te.size (es++src)) ⟨w.heap.size,nc,[]⟩
    (fun x hx=>by
     rw[hb]at hx
     cases hx
     simp only[xi,qC.sh,List.length_append]
     refine⟨by omega,fun h=>?_⟩
     have:(ι β).cap<es.length:=by omega
     omega)
    ⟨by simp,rfl,rfl⟩ (fun b' xQ _=>by simp[Array.getElem?_push,Nat.ne_of_lt xQ]) (fun _=> .inl (xJ _)) (fun he=>by
     obtain⟨p1,p2,p3⟩:=Eh.mono hi he
     refine⟨Wf++new++rest,e,(0,0),by simp,xE _, ?_,bU,by simp only[jT,List.length_append];omega,p1,p2,p3⟩
     simp only[jT,Array.size_append,k2,m2,r2,<- Nat.add_mul]
     congr 1
     omega)
   refine⟨key.1,key.2, ?_,xJ _,ki xt (xJ _) (xt β _ hb)⟩;refine .row β _ 0 _ _ _ rfl hg (fun _=>⟨_,_,_,rfl⟩) (fun _ _ _ e=>by cases e;exact xJ _) fun _ _ _ e _=>?_;cases e;refine⟨by simp, ?_⟩;simp only[w9,if_false,List.length_append];exact⟨⟨w.heap.size,0,none⟩,by simp,rfl,by simp,fun _=>by simp⟩
  cases hr
 cases hr
theorem Nd{ts tx e:TypeId}{ti te eJ:TI}(Qj:zx P ts ti)(xr:ti.td= .slice e)(rD:zx P e te)(Qk:zx P tx eJ)
  (oh:(∃ e',eJ.td= .slice e')\/eJ.td= .string) (tt:TypeId) (hi:qW w H ι Im) {nx:Nat} {X:Nat->Prop} (xt:Bd X H nx)
  {x y:AV} {vx vy:Value} (hx:RA w H ι Im x vx) (hy:RA w H ι Im y vy) {r:bY} (hr:ua te x y H nx=some r) (hX: ∀γ,X γ->r.2.2<=γ):
  ∃u w',(Builtin.append_ #[ts,tx] tt #[vx,vy]).run P w= .ok u w' /\mG X w H ι Im nx r u w' :=by
 unfold ua at hr;split at hr
 ·exact H8 Qj xr rD Qk oh tt hi xt hx hy hr hX
 rename_i mT src nO;split at hr;rotate_left
 ·cases hr
 rename_i hc;obtain⟨bO,bU⟩:=hc;obtain⟨l1,l2⟩:=mS (P:=P) hi hy nO;obtain⟨cs,f1,f2,f3⟩:=l2 te.size bO;have none0: ∀(base:Option Addr),RA w H ι Im x (.slice base 0 0)->src=[]->
   ∃u w',(Builtin.append_ #[ts,tx] tt #[.slice base 0 0,vy]).run P w= .ok u w' /\mG X w H ι Im nx (x,[],nx) u w' :=by
  intro base hxv hs;subst hs;refine⟨_,w,run_append_fits Qj xr rD Qk oh tt base 0 0 0 vy l1 (xJ _) cs f1 w (fun a ha=>?_) (fun _=>rfl),mG.pure hi xt hxv⟩;have:cs.toList=[]:=by
   have:cs.size=0:=by simpa using f2
   simpa using this
  rw[this];rfl
 have fresh: ∀(base:Option Addr),RA w H ι Im x (.slice base 0 0)->
   jH te x src nx nx (nx+1)=some r->
   ∃u w',(Builtin.append_ #[ts,tx] tt #[.slice base 0 0,vy]).run P w= .ok u w' /\mG X w H ι Im nx r u w' :=by
  intro base hxv hr;unfold jH at hr;split at hr
  ·cases hr;exact none0 base hxv rfl
  split at hr<;>cases hr;rename_i wV;obtain⟨nc,w',DC,g1,g2,g3,g4,g5⟩:=ZI Qj xr rD Qk oh tt hi hy nO bO (by simp) wV base;exact⟨_,w',g5,XM hi xt (sR hX) te.size _ DC e (0,0) nc w' g2.1 g2.2 (xE _) bU g3 g1 g4⟩
 split at hr
 ·cases hx with
  |pv _ _ h=>cases h with
   |cJ=>exact fresh none (.pv _ _ (.cJ _)) hr
 ·cases hx with
  |aT a=>exact fresh _ (.aT a) hr
 ·rename_i β zF off n;split at hr
  ·rename_i sz es hb;split at hr;rotate_left
   ·cases hr
   rename_i hc;obtain⟨xU,cC,hn⟩:=hc;subst cC hn;have C3:=hx;cases hx with
   |row _ _ _ _ _ b ho xQ hk hv hh=>
   rw[hb]at xQ;cases xQ;obtain⟨h1,h2⟩:=hh _ _ _ rfl xU;simp only[if_true]at h2;subst h2;have rR:es=[]:=hi.mW β _ hb;subst rR;unfold jH at hr;split at hr
   ·cases hr;exact none0 none C3 rfl
   rename_i a0 l0;split at hr<;>cases hr;rename_i wV;obtain⟨nc,w',DC,g1,g2,g3,g4,g5⟩:=ZI Qj xr rD Qk oh tt hi hy nO bO (by simp) wV none;refine⟨_,w',g5,jj ι β ⟨w.heap.size,nc,[]⟩, ?_⟩;have key:=qW.put (Qf:=TG hb rfl) hi (w' :=w') β (.row false te.size (a0::l0)) ⟨w.heap.size,nc,[]⟩ (fun x hx=>by rw[hb]at hx;cases hx;simp[xi,qC.sh,Pl.ka])
    ⟨by rw[g2.1];simp,g2.2⟩ (fun b' xQ _=>by rw[g2.1];simp[Array.getElem?_push,Nat.ne_of_lt xQ]) (fun _=> .inl (xJ _)) (fun he=>by
     have hk: ∀b,Im b->w'.heap[b]? =w.heap[b]? :=fun b hb=>he.Qm hi b hb
     obtain⟨k1,k2,k3⟩:=g4.mono he.im hk
     exact⟨DC,e,(0,0),by simp[g2],xE _,by simp[g3],bU,by simpa using g1,k1,k2,k3⟩)
   refine⟨key.1,key.2, ?_,xJ _,ki xt (xJ _) (xt β _ hb)⟩;have hg:(qS [(β,qC.row false te.size (a0::l0))] H).get β=some (.row false te.size (a0::l0)):=by simp[qS,qn.qZ]
   refine .row β _ 0 _ _ _ rfl hg (fun _=>⟨_,_,_,rfl⟩) (fun _ _ _ e=>by cases e;exact xJ _) fun _ _ _ e _=>?_;cases e;refine⟨by simp, ?_⟩;simp only[w9,if_false];exact⟨⟨w.heap.size,0,none⟩,by simp,rfl,by simp,fun _=>by simp⟩
  ·rename_i sz es hb;split at hr;rotate_left
   ·cases hr
   rename_i hc;obtain⟨xU,hszz,cC,wV⟩:=hc;subst cC hszz;have Lv:r=(.row β (es.take n++src++es.drop (n+src.length)).length 0 (n+src.length),[(β,.row false te.size (es.take n++src++es.drop (n+src.length)))],nx):=by
    split at hr<;>cases hr
    ·rename_i hn;rw[OZ es src hn,hn];simp
    rfl
   subst Lv;clear hr;cases hx with
   |row _ _ _ _ _ b ho xQ hk hv hh=>
   rw[hb]at xQ;cases xQ;obtain⟨h1,h2⟩:=hh _ _ _ rfl xU;simp only[w9,if_false]at h2;obtain⟨a,rfl,fR,dR,eX⟩:=h2;obtain⟨ab,ao,T5⟩:=a;simp only at fR dR eX;subst fR dR;obtain⟨vs,elem,fz,g1,g2,g3,g4,g5,g6,g7,g8⟩:=hi.row hb;have hes' :(es.take n++src++es.drop (n+src.length)).length=max es.length (n+src.length):=by
    simp;omega
   by_cases pB:n+src.length<=(ι β).cap
   ·
    have SK:src≠[]->ao=0:=fun jv=>by
     have:=List.length_pos_iff.2 jv;have:=eX (by omega);omega
    have Z7: ∀x∈cs.toList,rY x=true:=by
     intro x hx;obtain⟨m,hm⟩:=jz hx;have JH:m<src.length*te.size:=by
      have:=(qF hm).1;simp at this;omega
     have hdiv:m / te.size<src.length:=Nat.div_lt_of_lt_mul (by rwa[Nat.mul_comm]);have hmod:m % te.size<te.size:=Nat.mod_lt _ bU;obtain⟨e0,KG⟩: ∃e0,src[m / te.size]? =some e0:=⟨src[m / te.size],by simp⟩;have Yr:=f3.1 e0 (qX KG);obtain⟨p0,Lt⟩: ∃p0,e0[m % te.size]? =some p0:=⟨e0[m % te.size]'(by omega),by simp⟩;obtain⟨v0,q1,q2⟩:=f3.2.2 _ e0 _ p0 KG Lt;have:m / te.size*te.size+m % te.size=m:=by rw[Nat.mul_comm];exact Nat.div_add_mod m te.size
     simp only[this]at q1;have:x=v0:=by
      have h0:cs[m]? =some x:=by simpa using hm
      rw[h0]at q1;exact Option.some.inj q1
     subst this;exact q2.rY (f3.2.1 _ e0 _ p0 KG Lt)
    have hmul:n*te.size+src.length*te.size<=vs.size:=by
     rw[g3,<- Nat.add_mul];exact mulR _ pB
    have XF: ∃w',(storeCells ⟨(ι β).b,ao+n*te.size,none⟩ cs.toList).run P w=Result.ok () w' /\(w'.heap.size=w.heap.size/\w'.os=w.os/\w'.output=w.output)/\(∀ b',b' ≠(ι β).b->w'.heap[b']? =w.heap[b']?)/\
      ∃dG:Array Value,w'.heap[(ι β).b]? =some (.cells dG elem fz)/\dG.size=vs.size/\ ∀k,dG[k]? =if n*te.size<=k/\k<n*te.size+cs.size then cs[k-n*te.size]? else vs[k]? :=by
     by_cases hs:src=[]
     ·have AU:cs.size=0:=by rw[f2,hs];simp
      have lW:cs.toList=[]:=by simpa using AU
      refine⟨w,by rw[lW];rfl,⟨rfl,rfl,rfl⟩,fun _ _=>rfl,vs,g1,rfl,fun k=>?_⟩;rw[if_neg (by omega)]
     have:=SK hs;subst this;obtain⟨w',q1,q2,q3,dG,q4,q5,q6⟩:=wQ (P:=P) (ι β).b (n*te.size) elem fz cs.toList 0 w vs g1 g2 (by simp[f2];omega) Z7;refine⟨w',by simpa using q1,q2,q3,dG,q4,q5,fun k=>?_⟩;rw[q6 k];simp
    obtain⟨w',q1,q2,q3,dG,q4,q5,q6⟩:=XF;have JL:=run_append_fits (w' :=w') Qj xr rD Qk oh tt (some ⟨(ι β).b,ao,none⟩) n ((ι β).cap-0) src.length vy l1 (by omega) cs f1
     (fun a ha=>by cases ha;rw[add_plain];exact q1) (fun h=>by cases h)
    refine⟨_,w',JL,jj ι β (ι β), ?_⟩;have key:=qW.put (Qf:=TG hb rfl) hi (w' :=w') β (.row false te.size (es.take n++src++es.drop (n+src.length))) (ι β)
     (fun x hx=>by
      rw[hb]at hx
      cases hx
      simp only[xi,qC.sh]
      exact⟨by omega,fun _=>⟨by simp,fun _=>⟨by simp,Pl.ot _⟩⟩⟩)
     ⟨by omega,q2.2⟩ (fun b' _ jv=>q3 b' (fun e=>jv _ hb rfl e.symm)) (fun _=> .inr ⟨_,hb,rfl,rfl⟩) (fun bM=>by
      have hw: ∀b,Im b->w'.heap[b]? =w.heap[b]? :=fun b hb=>bM.Qm hi b hb
      have mq: ∀(i:Nat) e0,(es.take n++src++es.drop (n+src.length))[i]? =some e0->
        (n<=i/\i<n+src.length/\src[i-n]? =some e0)\/(¬ (n<=i/\i<n+src.length)/\es[i]? =some e0):=by
       intro i e0 h
       by_cases hn:n+src.length<=es.length
       ·rw[kp es src n i hn]at h
        split at h
        ·rename_i hc
         exact .inl ⟨hc.1,hc.2,h⟩
        rename_i hc
        exact .inr ⟨hc,h⟩
       rw[List.drop_eq_nil_of_le (by omega),List.append_nil,List.getElem?_append]at h
       have htl:(es.take n).length=n:=by simp;omega
       rw[htl]at h
       split at h
       ·rename_i hc
        rw[List.getElem?_take_of_lt hc]at h
        exact .inr ⟨by omega,h⟩
       rename_i hc
       have:=(qF h).1
       exact .inl ⟨by omega,by omega,h⟩
      refine⟨dG,elem,fz,by simpa using q4,by rw[q5];exact g2,by simp[q5,g3],bU,by simp only[jT];omega, ?_, ?_, ?_⟩
      ·intro e0 KG
       obtain⟨i,vq⟩:=jz KG
       rcases mq i e0 vq with ⟨_,_,h⟩|⟨_,h⟩
       ·exact f3.1 e0 (qX h)
       exact g6 e0 (qX h)
      ·intro i e0 j p vq hj
       rcases mq i e0 vq with ⟨_,_,h⟩|⟨_,h⟩
       ·exact f3.2.1 _ e0 j p h hj
       exact g7 _ e0 j p h hj
      intro i e0 j p vq hj
      have NX:=(qF hj).1
      rw[q6]
      rcases mq i e0 vq with ⟨k1,k2,h⟩|⟨k1,h⟩
      ·obtain⟨v0,w1,w2⟩:=f3.2.2 _ e0 j p h hj
       have Yr:=f3.1 e0 (qX h)
       have e1:i*te.size+j-n*te.size=(i-n)*te.size+j:=by
        have:i=n+(i-n):=by omega
        conv=>lhs;rw[this,Nat.add_mul]
        omega
       have e2:n*te.size<=i*te.size:=mulR _ k1
       have e3:(i+1)*te.size<=(n+src.length)*te.size:=mulR _ k2
       rw[Nat.succ_mul,Nat.add_mul]at e3
       rw[if_pos ⟨by omega,by rw[f2];omega⟩,e1]
       exact⟨v0,w1,w2.mono bM.im hw⟩
      obtain⟨v0,w1,w2⟩:=g8 _ e0 j p h hj
      have Yr:=g6 e0 (qX h)
      have Z8: ¬(n*te.size<=i*te.size+j/\i*te.size+j<n*te.size+cs.size):=by
       rw[f2]
       by_cases xB:i<n
       ·have:(i+1)*te.size<=n*te.size:=mulR _ xB
        rw[Nat.succ_mul]at this
        omega
       have:(n+src.length)*te.size<=i*te.size:=mulR _ (by omega)
       rw[Nat.add_mul]at this
       omega
      rw[if_neg Z8]
      exact⟨v0,w1,w2.mono bM.im hw⟩)
    refine⟨key.1,key.2, ?_,xJ _,ki xt (xJ _) (xt β _ hb)⟩;have hg:(qS [(β,qC.row false te.size (es.take n++src++es.drop (n+src.length)))] H).get β=some (.row false te.size (es.take n++src++es.drop (n+src.length))):=by simp[qS,qn.qZ]
    refine .row β _ 0 _ _ _ rfl hg (fun _=>⟨_,_,_,rfl⟩) (fun _ _ _ e=>by cases e;exact xJ _) fun _ _ _ e _=>?_;cases e;refine⟨by omega, ?_⟩;simp only[w9,if_false];refine⟨⟨(ι β).b,ao,none⟩,by simp,rfl,by simp,fun hc=>?_⟩;simp only[jT]at hc;have:=eX hc;simpa using this
   
   have cC:es.drop (n+src.length)=[]:=List.drop_eq_nil_of_le (by omega);have hw:(kQ w).heap=w.heap:=rfl;have Ej:vT (.row β zF 0 n) H=some (te.size,es.take n):=by
    simp[vT,hb,xU]
   have C3:RA w H ι Im (.row β zF 0 n) (.slice (some ⟨(ι β).b,ao,none⟩) n ((ι β).cap-0)):=
    .row β zF 0 n _ _ rfl hb hk hv hh
   have htl:(es.take n).length=n:=by simp;omega
   obtain⟨Wf,k1,k2,k3⟩:=(mS (P:=P) (hi.yu hw ⟨rfl,rfl⟩) (C3.yu hw ⟨rfl,rfl⟩ hi) Ej).2 te.size (.inl rfl);obtain⟨new,m1,m2,m3⟩:=(mS (P:=P) (hi.yu hw ⟨rfl,rfl⟩) (hy.yu hw ⟨rfl,rfl⟩ hi) nO).2 te.size bO;rw[htl]at k1 k2;obtain⟨nc,rest,r1,r2,r3⟩:=hZ (w:=w) Qj xr rD Qk oh tt (some ⟨(ι β).b,ao,none⟩) n ((ι β).cap-0) src.length vy l1 (by omega) wV Wf new k1 m1;have cD:=xD.append (rest:=rest) k3 m3 (by rw[k2,htl]);have Eh:=cD.mono (w' :=w) (jA:=Im) (fun _ h=>h) (fun b _=>by rw[hw]);have hes2:es.take n++src++es.drop (n+src.length)=es.take n++src:=by rw[cC];simp
   rw[hes2]at hes' |-;refine⟨_,_,r3,jj ι β ⟨w.heap.size,nc,[]⟩, ?_⟩;have E6:(es.take n++src).length=n+src.length:=by simp;omega
   have key:=qW.put (Qf:=TG hb rfl) hi (w' :={ kQ w with heap:=w.heap.push (.cells (Wf++new++rest) e) }) β (.row false te.size (es.take n++src)) ⟨w.heap.size,nc,[]⟩
    (fun x hx=>by
     rw[hb]at hx
     cases hx
     simp only[xi,qC.sh]
     exact⟨by omega,fun h=>by omega⟩)
    ⟨by simp,rfl,rfl⟩ (fun b' xQ _=>by simp[Array.getElem?_push,Nat.ne_of_lt xQ]) (fun _=> .inl (xJ _)) (fun he=>by
     have hk: ∀b,Im b->_:=fun b hb=>he.Qm hi b hb
     obtain⟨p1,p2,p3⟩:=Eh.mono he.im hk
     refine⟨Wf++new++rest,e,(0,0),by simp,xE _, ?_,bU,by simp only[jT];omega,p1,p2,p3⟩
     simp only[jT,Array.size_append,k2,m2,r2,<- Nat.add_mul]
     congr 1
     omega)
   refine⟨key.1,key.2, ?_,xJ _,ki xt (xJ _) (xt β _ hb)⟩;have hg:(qS [(β,qC.row false te.size (es.take n++src))] H).get β=some (.row false te.size (es.take n++src)):=by simp[qS,qn.qZ]
   refine .row β _ 0 _ _ _ rfl hg (fun _=>⟨_,_,_,rfl⟩) (fun _ _ _ e=>by cases e;exact xJ _) fun _ _ _ e _=>?_;cases e;refine⟨by omega, ?_⟩;simp only[w9,if_false];exact⟨⟨w.heap.size,0,none⟩,by simp,rfl,by simp,fun _=>by simp⟩
  cases hr
 cases hr
end
end Go.Gm
