/-
  The machine, part a.
-/
import Derived.WalkKit
import GoSem.Claims
import Derived.KernelRfl
open Go renaming TypeId->R,Value->Q,Builtin->M,Program->F,Operand->D,FuncId->A
open _root_ renaming Nat->W,List->V,Option->U,Bool->K,Array->J,if_neg->I,if_pos->C,decide_eq_true_eq->B
open Array renaming getElem?_append_left->N!,range->F!,ext'->I!,getElem?_eq_none->g_,length_toList->X_,getElem?_push->J_,size_append->B_,getElem?_setIfInBounds->P_,getElem?_append_right->C_,append_assoc->A',size_empty->q0f
open Bool renaming or_eq_true->w!,not_false->q1e,true->T,false->N
open Go.IntKind renaming i64->q?
open Go.Result renaming ok->q00
open Go.Sem renaming run_pure->H?,run->S_
open Go.World renaming setCell->Z',cell?->U'
open Int renaming toNat_of_nonneg->q03
open List renaming length_cons->b?,mem_append->t?,getElem?_append_left->c?,replicate->f?,map_cons->e?,getElem?_cons_zero->i?,getElem?_cons_succ->Q?,getElem?_append_right->J?,getElem?_map->Y?,mem_of_mem_take->U?,getElem?_take_of_lt->G?,mem_map->B?,flatMap_cons->A?,length_pos_iff->I?,nodup_append->O?,range->L?,getElem?_toArray->q!,mem_of_mem_drop->j!,getElem?_drop->h!,nodup_cons->o!,mem_flatMap->Q!,getElem?_set->P!,getElem?_append->T!,length_map->j_,getElem?_replicate->y_,drop_eq_nil_of_le->m_,getElem?_range->K_,length_replicate->N'
open Nat renaming succ_mul->T?,add_mul->S?,zero_add->x!,le_trans->c!,add_zero->a!,add_assoc->Z!,mul_comm->W!,lt_of_lt_of_le->G!,zero_le->A!,lt_or_gt_of_ne->G_,lt_or_ge->G',ne_of_lt->B',div_lt_of_lt_mul->I',not_lt_zero->q1d,div_add_mod->q1f,reducePow->q1s,mod_lt->q24
open Ne renaming symm->a_
open Option renaming getD_some->i!,map_some->O!,some->Z,none->Y
set_option linter.unusedSimpArgs false
set_option linter.unusedVariables false
theorem o?{P:Prop}(h:P:=by omega):P:=h
theorem v?{P:Prop}(h:P:=by simp;omega):P:=h
theorem z?{P:Prop}(h:P:=by simp):P:=h
theorem u?{P:Prop}(h:P:=by simp only;omega):P:=h
theorem k?{P:Prop}(h:P:=by kernel_rfl):P:=h
namespace Go.Gm
open Go
section
variable {α β:Type}
theorem qK{l:V α}{i:W}{a:α}(h:l[i]? =Z a): ∃h:i<l.length,l[i]=a:=V.getElem?_eq_some_iff.1 h
theorem zj{l:V α}{i:W}{a:α}(h:l[i]? =Z a):a∈l:=V.mem_of_getElem? h
theorem ke(n:W):n<=n:=W.le_refl n
theorem mulR{m n:W}(k:W)(h:m<=n):m*k<=n*k:=W.mul_le_mul_right k h
theorem gD{f:α->β}{x:U α}{b:β}:x.map f=Z b↔ ∃a,x=Z a/\f a=b:=U.map_eq_some_iff
theorem qM(a:α)(f:α->U β):(Z a).bind f=f a:=z?
theorem zl{α β:Type}: @bind U _ α β=U.bind:=by rfl
theorem yc{l:V α}{i:W}(h:i<l.length):l[i]? =Z l[i]:=V.getElem?_eq_getElem h
theorem kS{a:α}{l:V α}(h:a∈l): ∃i:W,l[i]? =Z a:=V.getElem?_of_mem h
theorem wO{a b:α}:(Z a=Z b)=(a=b):=z?
theorem vH:(N=T)=False:=z?
theorem xn(a b:K):((a&&b)=T)=(a=T/\b=T):=z?
theorem tV(a:α)(w:World)(f:α->World->Result β):(q00 a w).andThen f=f a w:=rfl
theorem w9(P:F)(w:World)(x:Sem α)(f:α->Sem β):S_ P (x>>=f) w=(S_ P x w).andThen λa w' =>S_ P (f a) w' :=Sem.run_bind P w x f
end
inductive PV where
 |bool (b:K)
 |int (k:IntKind) (n:Int)
 |str (s:V UInt8)
 |agg (c:V PV)
 |sl (qx:K) (sz:W) (es:V (V PV))
 |uI
 |iw
 |pC
 |Qf
 |fn (f:A)
 |rp (c:V PV)
 deriving Inhabited
def PV.UQ:PV->K
 | .bool _| .int _ _| .str _| .uI| .iw| .pC| .Qf| .fn _=>T
 |_=>N
inductive AV where
 |pv (p:PV)
 |ptr (β:W) (o:W)
 |bP (β xS i o:W)
 |cE (c:V PV) (o:W)
 |row (β xS off n:W)
 |QZ
 |map (β:W)
 |XK (f:A) (first cap:V AV)
 |agg (c:V AV)
 |xL (l:V AV)
 |undef
 deriving Inhabited
inductive qD where
 |box (c:V AV)
 |row (qx:K) (sz:W) (es:V (V PV))
 |map (es:V (PV×PV×W)) (xf:W)
 |rq (sz:W) (es:V (V AV))
 |we (qx:K) (lD:V W) (es:V PV) (ZS:U (W×W×W))
 |xA
 deriving Inhabited
def qD.sh:qD->U (K×W×W)
 | .row b a es=>Z (b,a,es.length)
 | .rq a es=>Z (N,a,es.length)
 | .we b _ es _=>Z (b,1,es.length)
 |_=>Y
def qD.slv:qD->U (K×W×W)
 | .row a b es=>Z (a,b,es.length)
 | .we a _ es Y=>Z (a,1,es.length)
 |_=>Y
def xB{α:Type}(k:W):V α->W
 |[]=>0
 |_::_=>k
def L4(b:K)(a:W)(es:V (V PV)):PV:= .sl b (xB a es) es
abbrev uS:=V (W×AV)
abbrev qt:=V (W×qD)
def uS.get:uS->W->AV
 |[],_=> .undef
 |(i,v)::r,n=>if i=n then v else uS.get r n
def qt.get:qt->W->U qD
 |[],_=>Y
 |(i,v)::r,n=>if i=n then Z v else qt.get r n
def qt.put:qt->W->qD->qt
 |[],n,x=>[(n,x)]
 |(i,v)::r,n,x=>if i=n then(i,x)::r else(i,v)::qt.put r n x
structure St where
 env:uS
 heap:qt
 nx:W
 deriving Inhabited
inductive TD where
 |struct (fields:V (W×W×R))
 |array (len:W) (elem:R)
 |slice (elem:R)
 |map (key elem:R)
 |bool
 |int (k:IntKind)
 |string
 |ptr
 |func
 |other
 deriving Inhabited
structure TI where
 size:W
 bytes:W
 td:TD
 zero:V PV
 eq:K
 pe:U R:=Y
 deriving Inhabited
def TI.isAgg(t:TI):K:=match t.td with| .struct _| .array _ _=>T|_=>N
def pvOf:Q->U PV
 | .bool b=>Z (.bool b)
 | .int k n=>Z (.int k n)
 | .string s=>Z (.str s.data.toList)
 | .pointer Y=>Z .uI
 | .slice Y 0 0=>Z (.sl T 0 [])
 | .map Y=>Z .pC
 | .nilFunc=>Z .iw
 | .nilIface=>Z .Qf
 | .func (.func f) ⟨[]⟩ ⟨[]⟩=>Z (.fn f)
 |_=>Y
def Qh:V Q->U (V PV)
 |[]=>Z []
 |v::r=>match pvOf v,Qh r with
  |some p,Z l=>Z (p::l)
  |_,_=>Y
def avOf(v:Q):AV:=
 match v with
 | .agg ⟨cs⟩=>match Qh cs with|some l=> .pv (.agg l)|none=> .undef
 | .tuple ⟨[]⟩=> .xL []
 |v=>match pvOf v with|some p=> .pv p|none=> .undef
structure sk where
 NT:V W:=[]
 out:V W:=[]
 wv:V W:=[]
 xR:V (W×W):=[]
 freeze:V W:=[]
 own:W:=0
 deriving Inhabited
def sk.off(a:sk):W:=if a.own=1000 then 0 else a.own
structure FI where
 nt:W
 results:V ResultVar
 body:Code
 deriving Inhabited
inductive Iq where
 |focus (t:W) (is:V W)
 |pack (t:W)
 |cut (t:W)
 |prom (t:W) (lD:V W)
 |GM (t:W)
 deriving Inhabited
structure GP where
 ti:R->U TI
 fn:A->U FI
 spec:A->W->sk
 owned:A->K
 dP:A->K
 pre:A->W->V W
 GM:R->K
 mrf:R->K
 cmd:A->W->V Iq
def ev(E:uS):D->AV
 | .tmp t=>E.get t
 | .const v=>avOf v
 | .global _=> .undef
 | .func f=> .pv (.fn f)
def X4:V AV->U (V PV)
 |[]=>Z []
 | .pv p::r=>match X4 r with|some l=>Z (p::l)|none=>Y
 |_::_=>Y
def Vi(c:V AV):AV:=match X4 c with|some l=> .pv (.agg l)|none=> .agg c
def AV.cells:AV->V AV
 | .pv (.agg c)=>c.map .pv
 | .agg c=>c
 |v=>[v]
def PV.cells:PV->V PV
 | .agg c=>c
 |p=>[p]
def AV.Sn:AV->K
 | .undef| .xL _=>N
 |_=>T
def AV.slc:AV->K
 | .row _ _ _ _| .QZ| .pv (.sl _ _ _)=>T
 |_=>N
def UK:AV->U PV
 | .pv p=>Z p
 | .QZ=>Z (.sl N 0 [])
 |_=>Y
def uh:AV->U W
 | .pv (.int _ n)=>if 0<=n then Z n.toNat else Y
 |_=>Y
abbrev ru:=AV×V (W×qD)×W
def ldA(ti:TI)(c:V AV):U AV:=
 if ti.isAgg then(if ti.size<=c.length then Z (Vi (c.take ti.size))else Y)
 else match c with|x::_=>Z x|[]=>Y
def ldP(ti:TI)(c:V PV):U AV:=
 if ti.isAgg then(if ti.size<=c.length then Z (.pv (.agg (c.take ti.size)))else Y)
 else match c with|x::_=>Z (.pv x)|[]=>Y
def Jg(ti:TI)(a:AV)(H:qt):U AV:=
 match a with
 | .ptr β o=>match H.get β with
  |some (.box c)=>ldA ti (c.drop o)
  |_=>Y
 | .bP β b i o=>match H.get β with
  |some (.row N _ es)=>if b=es.length then match es[i]? with|some e=>ldP ti (e.drop o)|none=>Y else Y
  |some (.rq _ es)=>if b=es.length then match es[i]? with|some e=>ldA ti (e.drop o)|none=>Y else Y
  |some (.we N _ es (Z (j,γ,d)))=>if b=es.length/\o=0/\j=i then ldA ti [.row γ d 0 d]else Y
  |_=>Y
 | .cE c o=>ldP ti (c.drop o)
 | .pv (.rp c)=>ldP ti c
 |_=>Y
def JZ(sz β xS i o size:W)(vs:V AV)(es:V (V AV)):U (V (W×qD)):=Y
def Nt:U (W×W×W)->W->K
 |some x,i=>decide (x.1=i)
 |none,_=>T
def WN(β b i o size:W)(v:AV)(c:V W)(es:V PV)(d:U (W×W×W)):U (V (W×qD)):=
 match v with
 | .row γ a 0 n=>if b=es.length/\i<es.length/\o=0/\size=1/\n=a/\Nt d i=T then Z [(β,.we N c es (Z (i,γ,a)))]else Y
 |_=>Y
def Z7(ti:TI)(a v:AV)(H:qt):U (V (W×qD)):=
 if v.Sn=T/\v.cells.length=ti.size then
  match a with
  | .ptr β o=>match H.get β with
   |some (.box c)=>if o+ti.size<=c.length then Z [(β,.box (c.take o++v.cells++c.drop (o+ti.size)))]else Y
   |_=>Y
  | .bP β d i o=>match X4 v.cells with
   |some f=>match H.get β with
    |some (.row N b es)=>
     if d=es.length then match es[i]? with
      |some e=>if o+ti.size<=e.length then Z [(β,.row N b (es.set i (e.take o++f++e.drop (o+ti.size))))]else Y
      |none=>Y
     else Y
    |some (.rq b es)=>JZ b β d i o ti.size v.cells es
    |_=>Y
   |none=>match H.get β with
    |some (.rq b es)=>JZ b β d i o ti.size v.cells es
    |some (.we N g es h)=>WN β d i o ti.size v g es h
    |_=>Y
  |_=>Y
 else Y
def Xe(zw:W->U (W×W))(ρ:D->AV):V (W×D)->V AV->U (V AV)
 |[],c=>Z c
 |(i,x)::r,c=>
  match zw i with
  |some (off,size)=>
   if(ρ x).Sn=T/\(ρ x).cells.length=size/\off+size<=c.length then
    Xe zw ρ r (c.take off++(ρ x).cells++c.drop (off+size))
   else Y
  |none=>Y
def Xc(a:V (W×W×R))(i:W):U (W×W):=match a[i]? with|some (o,s,_)=>Z (o,s)|none=>Y
def Ys(ti:TI)(d:R->U TI)(ρ:D->AV)(parts:V (W×D)):U AV:=
 match ti.td with
 | .struct b=>match Xe (Xc b) ρ parts (ti.zero.map .pv)with|some c=>Z (Vi c)|none=>Y
 | .array _ e=>match d e with
  |some a=>match Xe (λi=>Z (i*a.size,a.size)) ρ parts (ti.zero.map .pv)with|some c=>Z (Vi c)|none=>Y
  |none=>Y
 |_=>Y
def df(size:W)(ρ:D->AV):V (W×D)->V (V PV)->U (V (V PV))
 |[],es=>Z es
 |(i,x)::r,es=>
  match UK (ρ x)with
  |some p=>if p.cells.length=size/\i<es.length then df size ρ r (es.set i p.cells)else Y
  |none=>Y
def sO(size:W)(ρ:D->AV):V (W×D)->V (V AV)->U (V (V AV))
 |[],es=>Z es
 |(i,x)::r,es=>if(ρ x).Sn=T/\(ρ x).cells.length=size/\i<es.length then sO size ρ r (es.set i (ρ x).cells)else Y
def gj(v:AV)(H:qt):U (W×V (V PV)):=
 match v with
 | .pv (.sl _ a es)=>Z (a,es)
 | .QZ=>Z (0,[])
 | .row β c off n=>match H.get β with
  |some (.row _ a es)=>if c=es.length then Z (a,(es.drop off).take n)else Y
  |_=>Y
 | .pv (.str s)=>Z (1,s.map λb=>[.int .u8 b.toNat])
 |_=>Y
def ql(zY bytes:W):K:=decide (zY*bytes<=2^46)&&decide (zY<=2^46)&&decide (bytes<=2^20)
def wd(a:TI)(s:AV)(src:V (V PV))(γ nx iy:W):U ru:=
 match src with
 |[]=>Z (s,[],nx)
 |_::_=>if ql src.length a.bytes=T then Z (.row γ src.length 0 src.length,[(γ,.row N a.size src)],iy)else Y
def Xz(v:AV)(H:qt):U (W×V (V AV)):=
 match v with
 | .row β a off n=>match H.get β with
  |some (.rq b es)=>if a=es.length then Z (b,(es.drop off).take n)else Y
  |_=>Y
 |_=>Y
def freshA(a:TI)(src:V (V AV))(γ iy:W):U ru:=
 match src with
 |[]=>Y
 |_::_=>if ql src.length a.bytes=T then Z (.row γ src.length 0 src.length,[(γ,.rq a.size src)],iy)else Y
def rB(te:TI)(s x:AV)(H:qt)(nx:W):U ru:=Y
def ng(a:TI)(s x:AV)(H:qt)(nx:W):U ru:=
 match gj x H with
 |none=>rB a s x H nx
 |some (d7,src)=>
  if(d7=a.size\/src=[])/\0<a.size then
   match s with
   | .pv (.sl T _ _)=>wd a s src nx nx (nx+1)
   | .QZ=>wd a s src nx nx (nx+1)
   | .row β b off n=>match H.get β with
    |some (.row T _ es)=>if b=es.length/\off=0/\n=0 then wd a s src β nx nx else Y
    |some (.row N c es)=>
     if b=es.length/\c=a.size/\off=0/\ql (n+src.length) a.bytes=T then
      if n=es.length then Z (.row β (es++src).length 0 (es++src).length,[(β,.row N a.size (es++src))],nx)
      else Z (.row β (es.take n++src++es.drop (n+src.length)).length 0 (n+src.length),[(β,.row N a.size (es.take n++src++es.drop (n+src.length)))],nx)
     else Y
    |_=>Y
   |_=>Y
  else Y
def tz(a:TI)(s x:AV)(H:qt)(nx:W):U ru:=
 match Xz x H with
 |some (d7,[[.row γ b 0 fn]])=>match s with
  | .row β c off n=>match H.get β with
   |some (.we qx d es Y)=>if c=es.length/\off=0/\n=es.length/\d7=a.size/\a.size=1/\fn=b/\ql (n+1) a.bytes=T then
     Z (.row β (es.length+1) 0 (es.length+1),[(β,.we N d (es++[.sl T 0 []]) (Z (es.length,γ,b)))],nx)else Y
   |_=>Y
  |_=>Y
 |_=>Y
def s7:V (V PV)->U (V UInt8)
 |[]=>Z []
 |[.int .u8 n]::r=>match s7 r with|some l=>Z (UInt8.ofNat n.toNat::l)|none=>Y
 |_=>Y
def mI(e:R)(te:TI)(s x:AV)(H:qt)(nx:W):U ru:=Y
def ct(x:AV)(H:qt)(nx:W):U ru:=Y
def nS(el:R)(p x:AV)(H:qt)(nx:W):U ru:=Y
def Kh(a:TI)(d x:AV)(H:qt)(nx:W):U ru:=
 match gj x H with
 |none=>Y
 |some (d7,src)=>match d with
  | .row β b off n=>match H.get β with
   |some (.row N c es)=>
    if b=es.length/\c=a.size/\(d7=a.size\/src=[])then
     Z (.pv (.int .i64 ((src.take n).length:W)),[(β,.row N a.size (es.take off++src.take n++es.drop (off+(src.take n).length)))],nx)
    else Y
   |_=>Y
  |_=>Y
def cr(td:TD)(f:R->U TI)(x i:AV)(H:qt):U AV:=
 match uh i with
 |none=>Y
 |some k=>
  match td with
  | .slice e=>match f e with
   |none=>Y
   |some b=>match x with
    | .pv (.sl _ d es)=>if d=b.size then match es[k]? with|some c=>Z (.cE c 0)|none=>Y else Y
    | .row β a off n=>match H.get β with
     |some (.row N d es)=>if a=es.length/\d=b.size/\k<n then Z (.bP β a (off+k) 0)else Y
     |some (.rq d es)=>if a=es.length/\d=b.size/\k<n then Z (.bP β a (off+k) 0)else Y
     |some (.we N _ es _)=>if a=es.length/\b.size=1/\k<n then Z (.bP β a (off+k) 0)else Y
     |_=>Y
    |_=>Y
  | .array len e=>match f e with
   |none=>Y
   |some b=>if k<len then match x with
    | .ptr β o=>Z (.ptr β (o+k*b.size))
    | .bP β a j o=>Z (.bP β a j (o+k*b.size))
    | .cE c o=>Z (.cE c (o+k*b.size))
    |_=>Y
    else Y
  |_=>Y
def Z6(td:TD)(x:AV)(f:W):U AV:=
 match td with
 | .struct d=>match d[f]? with
  |some (a,s,_)=>if 0<s then match x with
   | .ptr β o=>Z (.ptr β (o+a))
   | .bP β b j o=>Z (.bP β b j (o+a))
   | .cE c o=>Z (.cE c (o+a))
   | .pv (.rp c)=>Z (.cE c a)
   |_=>Y
   else Y
  |none=>Y
 |_=>Y
def PZ(ti:TI)(x:AV)(off:W):U AV:=
 match x with
 | .pv (.agg c)=>ldP ti (c.drop off)
 | .agg c=>ldA ti (c.drop off)
 |_=>Y
def wD(ρ:D->AV)(d:W):U D->U W
 |none=>Z d
 |some x=>uh (ρ x)
def lC(td:TD)(i:R->U TI)(ρ:D->AV)(x:AV)(lo hi a:U D)(H:qt):U AV:=
 if a.isSome=T/\hi.isNone=T then Y else
 match td with
 | .string=>match x with
  | .pv (.str s)=>
   if a.isSome then Y else
   match wD ρ 0 lo,wD ρ s.length hi with
   |some l,Z h=>if l<=h/\h<=s.length then Z (.pv (.str ((s.take h).drop l)))else Y
   |_,_=>Y
  |_=>Y
 | .slice e=>match i e with
  |none=>Y
  |some g=>match x with
   | .pv (.sl c d es)=>
    match wD ρ 0 lo,wD ρ es.length hi,wD ρ es.length a with
    |some l,Z h,Z m=>
     if l<=h/\h<=m/\m<=es.length/\(d=g.size\/es=[])then
      if a.isSome=T/\l=m/\c=N then Z .QZ else Z (.pv (L4 c d ((es.take h).drop l)))
     else Y
    |_,_,_=>Y
   | .row β f off n=>
    match H.get β with
    |some b=>match b.slv with
     |some (c,d,k)=>
      match wD ρ 0 lo,wD ρ n hi,wD ρ n a with
      |some l,Z h,Z m=>
       if f=k/\l<=h/\h<=m/\m<=n/\(d=g.size\/c=T)then
        if a.isSome=T then(if c=T then Z (.row β f off n)else if l=m then Z .QZ else Y)
        else Z (.row β f (off+l) (h-l))
       else Y
      |_,_,_=>Y
     |none=>Y
    |none=>Y
   | .QZ=>
    match wD ρ 0 lo,wD ρ 0 hi,wD ρ 0 a with
    |some 0,Z 0,Z 0=>Z .QZ
    |_,_,_=>Y
   |_=>Y
 |_=>Y
def wu:V UInt8->V UInt8->K
 |_,[]=>N
 |[],_::_=>T
 |a::x,b::y=>a<b || (a==b&&wu x y)
def NJ(op:BinOp)(k:IntKind)(a b:Int):U PV:=
 match op with
 | .add=>Z (.int k (k.wrap (a+b)))
 | .sub=>Z (.int k (k.wrap (a-b)))
 | .mul=>Z (.int k (k.wrap (a*b)))
 | .quo=>if b=0 then Y else Z (.int k (k.wrap (a.tdiv b)))
 | .rem=>if b=0 then Y else Z (.int k (a.tmod b))
 | .eql=>Z (.bool (a==b))
 | .neq=>Z (.bool (a != b))
 | .lss=>Z (.bool (decide (a<b)))
 | .leq=>Z (.bool (decide (a<=b)))
 | .gtr=>Z (.bool (decide (a>b)))
 | .geq=>Z (.bool (decide (a>=b)))
 | .and=>Z (.int k (k.wrap (BitVec.ofInt k.bits a &&& BitVec.ofInt k.bits b).toNat))
 | .or=>Z (.int k (k.wrap (BitVec.ofInt k.bits a ||| BitVec.ofInt k.bits b).toNat))
 | .xor=>Z (.int k (k.wrap (BitVec.ofInt k.bits a ^^^ BitVec.ofInt k.bits b).toNat))
 | .andNot=>Z (.int k (k.wrap (BitVec.ofInt k.bits a &&& ~~~BitVec.ofInt k.bits b).toNat))
 |_=>Y
def MM(op:BinOp)(a b:V UInt8):U PV:=
 match op with
 | .add=>if a.length+b.length<=2^62 then Z (.str (a++b))else Y
 | .eql=>Z (.bool (a==b))
 | .neq=>Z (.bool (!(a==b)))
 | .lss=>Z (.bool (wu a b))
 | .leq=>Z (.bool (wu a b || a==b))
 | .gtr=>Z (.bool (!(wu a b || a==b)))
 | .geq=>Z (.bool (!wu a b))
 |_=>Y
def ny:V PV->V PV->U K
 |[],[]=>Z T
 | .int k a::r,.int d b::c =>if k=d then match ny r c with|some t=>Z (a==b&&t)|none=>Y else Y
 | .str a::r,.str b::c =>match ny r c with|some t=>Z (a==b&&t)|none=>Y
 | .bool a::r,.bool b::c =>match ny r c with|some t=>Z (a==b&&t)|none=>Y
 |_,_=>Y
def ea(td:TD)(v:AV)(H:qt):U K:=
 match td with
 | .ptr=>match v with
  | .pv .uI=>Z T
  | .ptr _ _| .cE _ _| .bP _ _ _ _| .pv (.rp _)=>Z N
  |_=>Y
 | .slice _=>match v with
  | .pv (.sl b _ _)=>Z b
  | .QZ=>Z N
  | .row β a _ _=>match H.get β with
   |some (.row b _ es)=>if a=es.length then Z b else Y
   |_=>Y
  |_=>Y
 | .map _ _=>match v with
  | .pv .pC=>Z T
  | .map _=>Z N
  |_=>Y
 | .func=>match v with
  | .pv .iw=>Z T
  | .pv (.fn _)| .XK _ _ _=>Z N
  |_=>Y
 |_=>Y
def Ul(td:TD)(v:AV):K:=
 match td,v with
 | .ptr,.pv .uI=>T
 | .slice _,.pv (.sl T _ _)=>T
 | .map _ _,.pv .pC=>T
 | .func,.pv .iw=>T
 |_,_=>N
def kV:TD->PV->K
 | .int _,.int _ _| .string,.str _| .bool,.bool _=>T
 |_,_=>N
def oS(a:R->U TI):V (W×W×R)->V PV->K
 |[],[]=>T
 |(_,_,t)::r,p::l=>(match a t with|some ti=>kV ti.td p|none=>N)&&oS a r l
 |_,_=>N
def Tw(c:R->U TI)(ti:TI)(a:V PV):K:=
 match ti.td with
 | .struct b=>if ti.size<=a.length then ti.eq&&oS c b (a.take ti.size)else N
 |td=>kV td (a.headD .uI)
def Np(b:R->U TI):V (W×W×R)->V PV->K
 |[],[]=>T
 |[],_::_=>N
 |(_,_,t)::r,a=>match b t with
  |some ti=>Tw b ti a&&Np b r (a.drop ti.size)
  |none=>N
def aEq(d:R->U TI)(ti:TI)(x y:AV)(H:qt):U K:=
 match ti.td with
 | .bool=>match x,y with
  | .pv (.bool a),.pv (.bool b)=>Z (a==b)
  |_,_=>Y
 | .struct c=>match x,y with
  | .pv (.agg a),.pv (.agg b)=>if ti.eq=T/\oS d c a=T then ny a b else Y
  |_,_=>Y
 |td=>if Ul td y=T then ea td x H else if Ul td x=T then ea td y H else Y
def Cg(c:R->U TI)(op:BinOp)(ti:TI)(x y:AV)(H:qt):U PV:=
 match op with
 | .shl=>match x,y with
  | .pv (.int k a),.pv (.int _ b)=>if 0<=b then Z (.int k (k.wrap (a*2^(min b.toNat k.bits))))else Y
  |_,_=>Y
 | .shr=>match x,y with
  | .pv (.int k a),.pv (.int _ b)=>if 0<=b then Z (.int k (a.fdiv (2^(min b.toNat k.bits))))else Y
  |_,_=>Y
 |op=>match x,y with
  | .pv (.int k a),.pv (.int d b)=>if k=d then NJ op k a b else Y
  | .pv (.str a),.pv (.str b)=>MM op a b
  |x,y=>match op with
   | .eql=>match aEq c ti x y H with|some t=>Z (.bool t)|none=>Y
   | .neq=>match aEq c ti x y H with|some t=>Z (.bool (!t))|none=>Y
   |_=>Y
def KC:TD->AV->K
 | .string,.pv (.str _)=>T
 | .slice _,.pv (.sl _ _ _)=>T
 | .slice _,.row _ _ _ _=>T
 | .slice _,.QZ=>T
 | .map _ _,.pv .pC=>T
 | .map _ _,.map _=>T
 |_,_=>N
def aUn(op:UnOp)(x:AV):U PV:=
 match op,x with
 | .not,.pv (.bool b)=>Z (.bool !b)
 | .neg,.pv (.int k n)=>Z (.int k (k.wrap (0-n)))
 |_,_=>Y
def db(src dst:TD)(a:R->U TI)(x:AV)(H:qt)(nx:W):U ru:=
 match src,dst,x with
 |_,.int k,.pv (.int _ n)=>Z (.pv (.int k (k.wrap n)),[],nx)
 |_,.string,.pv (.str s)=>Z (.pv (.str s),[],nx)
 | .slice e,.string,x=>match a e with
  |some c=>match c.td with
   | .int .u8=>match gj x H with
    |some (d7,es)=>if d7=1\/es=[]then match s7 es with|some l=>Z (.pv (.str l),[],nx)|none=>Y else Y
    |none=>Y
   |_=>Y
  |none=>Y
 |_,.slice e,.pv (.str s)=>match a e with
  |some c=>match c.td with
   | .int .u8=>Z (.row nx s.length 0 s.length,[(nx,.row N 1 (s.map λb=>[.int .u8 b.toNat]))],nx+1)
   |_=>Y
  |none=>Y
 |_,_,_=>Y
def R1:PV->PV->U K
 | .int k a,.int c b=>if k=c then Z (a==b)else Y
 | .str a,.str b=>Z (a==b)
 | .bool a,.bool b=>Z (a==b)
 |_,_=>Y
def findKey(k:PV):V (PV×PV×W)->W->U (U (W×PV×W))
 |[],_=>Z Y
 |(x,v,born)::r,i=>match R1 k x with
  |some T=>Z (Z (i,v,born))
  |some N=>findKey k r (i+1)
  |none=>Y
def KO(t:TI):PV:=if t.isAgg then .agg t.zero else t.zero.headD .uI
def Yy(m:AV)(k:PV)(H:qt):U (U (W×PV×W)):=
 match m with
 | .pv .pC=>Z Y
 | .map β=>match H.get β with
  |some (.map es _)=>findKey k es 0
  |_=>Y
 |_=>Y
def oN(b a:TI)(m k:AV)(ok:K)(H:qt):U AV:=
 match k with
 | .pv k=>if kV b.td k then match Yy m k H with
  |some (Z (_,v,_))=>Z (if ok then .xL [.pv v,.pv (.bool T)]else .pv v)
  |some Y=>Z (if ok then .xL [.pv (KO a),.pv (.bool N)]else .pv (KO a))
  |none=>Y
  else Y
 |_=>Y
def X2(tk te:TI)(m k:AV)(ok:K)(H:qt):U AV:=Y
def ic(tk:TI)(m k v:AV)(H:qt):U (V (W×qD)):=Y
def dc(a:TI)(m k:AV)(v:PV)(H:qt):U (V (W×qD)):=
 match m,k with
 | .map β,.pv k=>if kV a.td k then match H.get β with
  |some (.map es xf)=>match findKey k es 0 with
   |some (Z (i,_,born))=>Z [(β,.map (es.set i (k,v,born)) xf)]
   |some Y=>Z [(β,.map (es++[(k,v,xf)]) (xf+1))]
   |none=>Y
  |_=>Y
  else Y
 |_,_=>Y
def X1(tk te:TI)(m k:AV)(H:qt):U (AV×V (W×qD)):=Y
def pa(m st:AV)(v:PV)(H:qt):U (V (W×qD)):=Y
def fV(a:TI)(m k:AV)(H:qt):U (V (W×qD)):=
 match m,k with
 | .pv .pC,.pv k=>if kV a.td k then Z []else Y
 | .map β,.pv k=>if kV a.td k then match H.get β with
  |some (.map es xf)=>match findKey k es 0 with
   |some (Z (i,_,_))=>Z [(β,.map (es.eraseIdx i) xf)]
   |some Y=>Z [(β,.map es xf)]
   |none=>Y
  |_=>Y
  else Y
 |_,_=>Y
def PT(x:AV)(H:qt):U W:=
 match x with
 | .pv (.str s)=>Z s.length
 | .pv (.sl _ _ es)=>Z es.length
 | .pv .pC=>Z 0
 | .QZ=>Z 0
 | .row β a _ n=>match H.get β with
  |some (.row _ _ es)=>if a=es.length then Z n else Y
  |some (.rq _ es)=>if a=es.length then Z n else Y
  |some (.we _ _ es _)=>if a=es.length then Z n else Y
  |_=>Y
 | .map β=>match H.get β with
  |some (.map es _)=>Z es.length
  |_=>Y
 |_=>Y
def Zl(isMax:K)(k:IntKind):Int->V AV->U PV
 |a,[]=>Z (.int k a)
 |a,.pv (.int _ b)::r=>Zl isMax k (if isMax then(if b>a then b else a)else(if b<a then b else a)) r
 |_,_=>Y
def aMax(isMax:K):V AV->U PV
 | .pv (.int k a)::r=>Zl isMax k a r
 |[.pv (.str a),.pv (.str b)]=>if isMax=T then Z (.str (if wu a b=T then b else a))else Y
 |_=>Y
def fg(td:TD)(d:R->U TI)(l c:AV)(nx:W):U ru:=
 match td with
 | .slice e=>match d e,uh l,uh c with
  |some a,Z n,Z b =>
   if b =n/\0<a.size/\ql n a.bytes=T then Z (.row nx (f? n a.zero).length 0 (f? n a.zero).length,[(nx,.row N a.size (f? n a.zero))],nx+1)else Y
  |_,_,_=>Y
 |_=>Y
def AV.refs:AV->V W
 | .ptr β _| .bP β _ _ _| .row β _ _ _| .map β=>[β]
 | .agg c=>sB c
 | .xL c=>sB c
 | .XK _ a b=>sB a++sB b
 |_=>[]
where sB:V AV->V W
 |[]=>[]
 |v::r=>v.refs++sB r
def AV.rows:AV->V W
 | .row β _ _ _=>[β]
 | .agg c=>Jr c
 | .xL c=>Jr c
 |_=>[]
where Jr:V AV->V W
 |[]=>[]
 |v::r=>v.rows++Jr r
def AV.uW(β:W)(g:K)(e:W)(es:V (V PV)):AV->AV
 | .row β' d off n=>if β' =β/\d=es.length then .pv (L4 g e ((es.drop off).take n))else .row β' d off n
 | .agg c=>Vi (cX c)
 | .xL c=> .xL (cX c)
 | .XK f a b=> .XK f (cX a) (cX b)
 |v=>v
where cX:V AV->V AV
 |[]=>[]
 |v::r=>AV.uW β g e es v::cX r
def qD.uW(β:W)(d:K)(a:W)(es:V (V PV)):qD->qD
 | .box c=> .box (AV.uW.cX β d a es c)
 | .rq f e=> .rq f (e.map (AV.uW.cX β d a es))
 |b=>b
def freeze(β:W)(s:St):St:=
 match s.heap.get β with
 |some (.row a c es)=>
  { s with env:=s.env.map (λ(t,v)=>(t,v.uW β a c es)),heap:=qt.put (s.heap.map λ(i,b)=>(i,b.uW β a c es)) β .xA }
 |some (.we a _ es Y)=>
  { s with env:=s.env.map (λ(t,v)=>(t,v.uW β a 1 (es.map λp=>[p]))),heap:=qt.put (s.heap.map λ(i,b)=>(i,b.uW β a 1 (es.map λp=>[p]))) β .xA }
 |_=>s
def nv:V W->St->St
 |[],s=>s
 |β::r,s=>nv r (freeze β s)
def ae(es:V (V PV)):K:=es.all λe=>e.all PV.UQ
def Ns(a:K)(d:W)(b:V W)(es:V (V PV)):U qD:=
 match b with
 |[]=>Z (.row a d es)
 |_::_=>if d=1 then Z (.we a b es.flatten Y)else Y
def Nu(H:qt)(nx β i:W):U (qt×W×W):=
 match H.get β with
 |some (.we N f es Y)=>match f with
  |d::a=>match es[i]? with
   |some (.sl e _ c)=>match Ns e d a c with
    |some b=>Z (qt.put (qt.put H β (.we N (d::a) es (Z (i,nx,c.length)))) nx b,nx+1,nx)
    |none=>Y
   |_=>Y
  |[]=>Y
 |some (.we N _ _ (Z x))=>if x.1=i then Z (H,nx,x.2.1)else Y
 |_=>Y
def eG(H:qt)(nx β:W):V W->qt×W
 |[]=>(H,nx)
 |i::r=>match Nu H nx β i with
  |some (a,iy,γ)=>eG a iy γ r
  |none=>(H,nx)
def KJ(d:W)(b:V W)(c:W):qD->U PV
 | .row a e es=>match b with
  |[]=>if c=es.length/\(a=T\/e=d)/\ae es=T then Z (.sl a (xB d es) es)else Y
  |_::_=>Y
 | .we a f es Y=>match b with
  |[]=>Y
  |_::_=>if f=b/\d=1/\c=es.length then Z (.sl a (xB d (es.map λp=>[p])) (es.map λp=>[p]))else Y
 |_=>Y
def Bp(H:qt)(β:W):qt:=
 match H.get β with
 |some (.we N (d::a) es (Z (i,γ,c)))=>match H.get γ with
  |some b=>match KJ d a c b with
   |some p=>qt.put (qt.put H β (.we N (d::a) (es.set i p) Y)) γ .xA
   |none=>H
  |none=>H
 |_=>H
def UG:W->qt->W->qt
 |0,H,_=>H
 |n+1,H,β=>match H.get β with
  |some (.we _ _ _ (Z x))=>Bp (UG n H x.2.1) β
  |_=>H
def ph(s:St)(t:W):AV:=
 if t<1000 then s.env.get t else match s.env.get (t % 1000)with
  | .ptr β o=>match s.heap.get β with
   |some (.box c)=>match c[o+(t / 1000-1)]? with|some v=>v|none=> .undef
   |_=> .undef
  |_=> .undef
def FD(s:St):V W->U (V W)
 |[]=>Z []
 |t::r=>match uh (ph s t),FD s r with
  |some n,Z l=>Z (n::l)
  |_,_=>Y
def XZ(s:St)(t:W)(v:AV):St:=
 if t<1000 then{ s with env:=(t,v)::s.env }else match s.env.get (t % 1000)with
  | .ptr β o=>match s.heap.get β with
   |some (.box c)=>if o+(t / 1000-1)<c.length then{ s with heap:=qt.put s.heap β (.box (c.set (o+(t / 1000-1)) v)) }else s
   |_=>s
  |_=>s
def YR(n:W):qD->U (W×qD)
 | .row N a es=>if n<=es.length then Z (es.length,.row N a (es.take n))else Y
 | .we b c es Y=>if n<=es.length then Z (es.length,.we b c (es.take n) Y)else Y
 |_=>Y
def XV:V W->qD
 |[]=> .row T 0 []
 |d::a=> .we T (d::a) [] Y
def Y6(s:St):AV->V W
 | .ptr β _=>match s.heap.get β with
  |some (.box c)=>AV.rows.Jr c
  |_=>[]
 |v=>v.rows
def HM(c:Iq)(s:St):St:=
 match c with
 | .focus t is=>match ph s t,FD s is with
  | .row β _ 0 _,Z l=>{ s with heap:=(eG s.heap s.nx β l).1,nx:=(eG s.heap s.nx β l).2 }
  |_,_=>s
 | .pack t=>match ph s t with
  | .row β _ _ _=>{ s with heap:=UG 4 s.heap β }
  |_=>s
 | .cut t=>match ph s t with
  | .row β a 0 n=>match s.heap.get β with
   |some b=>match YR n b with
    |some (l,y)=>if a=l then XZ { s with heap:=qt.put (qt.put s.heap β .xA) s.nx y,nx:=s.nx+1 } t (.row s.nx n 0 n)else s
    |none=>s
   |none=>s
  |_=>s
 | .prom t d=>match ph s t with
  | .pv (.sl T _ [])=>XZ { s with heap:=qt.put s.heap s.nx (XV d),nx:=s.nx+1 } t (.row s.nx 0 0 0)
  |_=>s
 | .GM t=>nv (Y6 s (ph s t)) s
def sG:V Iq->St->St
 |[],s=>s
 |c::r,s=>sG r (HM c s)
inductive Ex where
 |normal
 |ret
 |exit (id:W)
 deriving DecidableEq,Inhabited
structure jb where
 call:A->V AV->qt->U (AV×qt)
 loop:A->W->St->U (Ex×St)
def AV.aa(g:W->W):AV->AV
 | .ptr β o=> .ptr (g β) o
 | .bP β v i o=> .bP (g β) v i o
 | .row β v off n=> .row (g β) v off n
 | .map β=> .map (g β)
 | .agg c=> .agg (Xw g c)
 | .xL c=> .xL (Xw g c)
 | .XK f a b=> .XK f (Xw g a) (Xw g b)
 |v=>v
where Xw (g:W->W):V AV->V AV
 |[]=>[]
 |v::r=>AV.aa g v::Xw g r
def qD.aa(g:W->W):qD->qD
 | .we d e es f=> .we d e es (f.map λx=>(x.1,g x.2.1,x.2.2))
 | .box c=> .box (AV.aa.Xw g c)
 | .rq a es=> .rq a (es.map (AV.aa.Xw g))
 |b=>b
def qD.refs:qD->V W
 | .we _ _ _ a=>match a with|some x=>[x.2.1]|none=>[]
 | .box c=>AV.refs.sB c
 | .rq _ es=>es.flatMap AV.refs.sB
 |_=>[]
def pos:V W->W->W
 |[],_=>0
 |β::r,x=>if β=x then 0 else pos r x+1
def Uu:V W->W->K
 |[],_=>N
 |β::r,x=>if β=x then T else Uu r x
def MO:V W->V W->K
 |[],_=>T
 |x::r,L=>Uu L x&&MO r L
def dQ(H:qt)(β:W):qD:=match H.get β with|some b=>b|none=> .xA
def tD(H:qt):W->V W->V W->V W
 |0,_,d=>d
 |_+1,[],d=>d
 |n+1,β::r,d=>if Uu d β then tD H n r d else tD H n (r++(dQ H β).refs) (d++[β])
def sM(H:qt)(L:V W):V W->K
 |[]=>T
 |β::r=>(match H.get β with|some b=>MO b.refs L|none=>N)&&sM H L r
def pick(H:qt)(g:W->W):W->V W->qt
 |_,[]=>[]
 |i,β::r=>(i,(dQ H β).aa g)::pick H g (i+1) r
def dN(H:qt)(d:V W)(roots:V W):U (V W×qt):=
 match roots,d with
 |[],[]=>Z ([],[])
 |roots,d=>
  let L:=tD H 400 (roots++d.flatMap λβ=>(dQ H β).refs) d
  if MO roots L&&sM H L L then Z (L,pick H (pos L) 0 L)else Y
def zm:V (W×qD)->qt->qt
 |[],H=>H
 |(i,b)::r,H=>zm r (qt.put H i b)
def jT(L:V W)(nx:W)(j:W):W:=match L[j]? with|some β=>β|none=>nx+(j-L.length)
def uv(g:W->W):qt->V (W×qD)
 |[]=>[]
 |(i,b)::r=>(g i,b.aa g)::uv g r
def bS:W->qt->K
 |_,[]=>T
 |i,(j,_)::r=>decide (j=i)&&bS (i+1) r
def Q0(O:jb)(f:A)(args:V AV)(H:qt)(nx:W):U ru:=
 match dN H [] (AV.refs.sB args)with
 |none=>Y
 |some (L,b)=>
  match O.call f (AV.aa.Xw (pos L) args) b with
  |none=>Y
  |some (v,a)=>if bS 0 a =T then Z (v.aa (jT L nx),uv (jT L nx) a,nx+(a.length-L.length))else Y
def orT:U ru->U ru->U ru
 |some r,_=>Z r
 |none,y=>y
def da(G:GP)(b:M)(i:V R)(args:V AV)(H:qt)(nx:W):U ru:=
 match b,i,args with
 | .len,t::_,[x]=>match G.ti t with
  |some ti=>if KC ti.td x=T then match PT x H with|some n=>Z (.pv (.int .i64 n),[],nx)|none=>Y else Y
  |none=>Y
 | .unsafeSliceData,_,[x]=>ct x H nx
 | .unsafeString,g::_,[p,x]=>match G.ti g with
  |some ti=>match ti.pe with
   |some el=>match G.ti el with|some d=>if d.size=1 then nS el p x H nx else Y|none=>Y
   |none=>Y
  |none=>Y
 | .max,_,l=>match aMax T l with|some p=>Z (.pv p,[],nx)|none=>Y
 | .min,_,l=>match aMax N l with|some p=>Z (.pv p,[],nx)|none=>Y
 | .append,ts::f::_,[s,x]=>match G.ti ts,G.ti f with
  |some ti,Z j=>match ti.td,j.td with
   | .slice e,.slice _=>match G.ti e with|some a=>orT (ng a s x H nx) (orT (mI e a s x H nx) (tz a s x H nx))|none=>Y
   | .slice e,.string=>match G.ti e with|some a=>orT (ng a s x H nx) (orT (mI e a s x H nx) (tz a s x H nx))|none=>Y
   |_,_=>Y
  |_,_=>Y
 | .copy,ts::_,[s,x]=>match G.ti ts with
  |some ti=>match ti.td with
   | .slice e=>match G.ti e with|some a=>Kh a s x H nx|none=>Y
   |_=>Y
  |none=>Y
 | .delete,h::_,[m,k]=>match G.ti h with
  |some ti=>match ti.td with
   | .map c _=>match G.ti c with
    |some c=>match fV c m k H with|some ws=>Z (.xL [],ws,nx)|none=>Y
    |none=>Y
   |_=>Y
  |none=>Y
 |_,_,_=>Y
def aA(G:GP)(t:R):U (TI×TI):=
 match G.ti t with
 |some ti=>match ti.td with
  | .map k e=>match G.ti k,G.ti e with
   |some a,Z b=>Z (a,b)
   |_,_=>Y
  |_=>Y
 |none=>Y
def rn(ws:U (V (W×qD)))(nx:W):U ru:=match ws with|some ws=>Z (.xL [],ws,nx)|none=>Y
def mY(v:U AV)(nx:W):U ru:=match v with|some v=>Z (v,[],nx)|none=>Y
def Vm(v:U PV)(nx:W):U ru:=match v with|some v=>Z (.pv v,[],nx)|none=>Y
def isBytes(G:GP)(t:R):K:=
 match G.ti t with
 |some ti=>match ti.td with
  | .slice e=>match G.ti e with
   |some a=>match a.td with
    | .int .u8=>T
    |_=>N
   |none=>N
  |_=>N
 |none=>N
def Kg(G:GP)(t:R)(ti:TI)(nx:W):U ru:=Y
def cG(G:GP)(t:R)(x:AV)(H:qt)(nx:W):U ru:=Y
def X3(G:GP)(t:R)(m k x:AV)(H:qt)(nx:W):U ru:=
 match aA G t with
 |some (a,te)=>if x.slc=T then rn (ic a m k x H) nx else Y
 |none=>Y
def aBox(GM:K)(c:V AV)(nx:W):U ru:=
 if GM=T then match X4 c with|some l=>Z (.pv (.rp l),[],nx)|none=>Y else Z (.ptr nx 0,[(nx,.box c)],nx+1)
def ry(G:GP)(O:jb)(o:Op)(E:uS)(H:qt)(nx:W):U ru:=
 match o with
 | .move x=>Z (ev E x,[],nx)
 | .assign x=>Z (ev E x,[],nx)
 | .pick c a b=>match ev E c with| .pv (.bool t)=>Z (if t then ev E a else ev E b,[],nx)|_=>Y
 | .alloc t=>match G.ti t with|some ti=>if G.mrf t=T then Kg G t ti nx else Z (.ptr nx 0,[(nx,.box (ti.zero.map .pv))],nx+1)|none=>Y
 | .box t x=>if(ev E x).Sn=T then aBox (G.GM t) (ev E x).cells nx else Y
 | .build t parts=>match G.ti t with|some ti=>mY (Ys ti G.ti (ev E) parts.toList) nx|none=>Y
 | .buildSlice t len parts=>match G.ti t with
  |some ti=>match ti.td with
   | .slice e=>match G.ti e with
    |some g=>if 0<g.size/\len*g.size<=2^24 then if G.mrf t=T then(match sO g.size (ev E) parts.toList (f? len (g.zero.map .pv))with
     |some es=>Z (.row nx es.length 0 es.length,[(nx,.rq g.size es)],nx+1)
     |none=>Y)else match df g.size (ev E) parts.toList (f? len g.zero)with
     |some es=>Z (.row nx es.length 0 es.length,[(nx,.row N g.size es)],nx+1)
     |none=>Y
     else Y
    |none=>Y
   |_=>Y
  |none=>Y
 | .load t a=>match G.ti t with|some ti=>mY (Jg ti (ev E a) H) nx|none=>Y
 | .store t a x=>match G.ti t with|some ti=>rn (Z7 ti (ev E a) (ev E x) H) nx|none=>Y
 | .nilCheck x=>match ev E x with
  | .ptr β o=>Z (.ptr β o,[],nx)
  | .cE c o=>Z (.cE c o,[],nx)
  | .pv (.rp c)=>Z (.pv (.rp c),[],nx)
  | .bP β v i o=>Z (.bP β v i o,[],nx)
  | .pv (.fn f)=>Z (.pv (.fn f),[],nx)
  | .XK f a b=>Z (.XK f a b,[],nx)
  |_=>Y
 | .binOp op t x y _=>match G.ti t with|some ti=>Vm (Cg G.ti op ti (ev E x) (ev E y) H) nx|none=>Y
 | .unOp op _ x=>Vm (aUn op (ev E x)) nx
 | .convert s d x=>if s=d then cG G s (ev E x) H nx else match G.ti s,G.ti d with|some ts,Z td=>db ts.td td.td G.ti (ev E x) H nx|_,_=>Y
 | .makeFunc (.func f) a b=>Z (match a.toList,b.toList with|[],[]=> .pv (.fn f)|a,b=> .XK f (a.map (ev E)) (b.map (ev E)),[],nx)
 | .makeMap t Y=>Z (.map nx,[(nx,.map [] 0)],nx+1)
 | .slice t x lo hi q=>match G.ti t with|some ti=>mY (lC ti.td G.ti (ev E) (ev E x) lo hi q H) nx|none=>Y
 | .fieldAddr t x f=>match G.ti t with|some ti=>mY (Z6 ti.td (ev E x) f) nx|none=>Y
 | .field t x f=>match G.ti t with
  |some ti=>match ti.td with
   | .struct r=>match r[f]? with
    |some (off,_,n)=>match G.ti n with|some j=>mY (PZ j (ev E x) off) nx|none=>Y
    |none=>Y
   |_=>Y
  |none=>Y
 | .indexAddr t x i=>match G.ti t with|some ti=>mY (cr ti.td G.ti (ev E x) (ev E i) H) nx|none=>Y
 | .index t x i=>match G.ti t with
  |some ti=>match ti.td,ev E x,uh (ev E i)with
   | .string,.pv (.str s),Z k=>match s[k]? with|some b=>Z (.pv (.int .u8 b.toNat),[],nx)|none=>Y
   | .array len e,x,Z k=>if k<len then match G.ti e with|some g=>mY (PZ g x (k*g.size)) nx|none=>Y else Y
   |_,_,_=>Y
  |none=>Y
 | .lookup t m k ok=>match aA G t with|some (h,g)=>mY (if G.mrf t=T then X2 h g (ev E m) (ev E k) ok H else oN h g (ev E m) (ev E k) ok H) nx|none=>Y
 | .mapUpdate t m k x=>if G.mrf t=T then X3 G t (ev E m) (ev E k) (ev E x) H nx else match aA G t,UK (ev E x)with
  |some (h,g),Z p=>if p.cells.length=g.size then rn (dc h (ev E m) (ev E k) p H) nx else Y
  |_,_=>Y
 | .insert t m k x=>match aA G t,UK (ev E x)with
  |some (h,g),Z p=>if p.cells.length=g.size then rn (dc h (ev E m) (ev E k) p H) nx else Y
  |_,_=>Y
 | .mapEntry t m k=>match aA G t with
  |some (h,g)=>match X1 h g (ev E m) (ev E k) H with|some (v,ws)=>Z (v,ws,nx)|none=>Y
  |none=>Y
 | .entryStore _ m st x=>match UK (ev E x)with|some p=>rn (pa (ev E m) (ev E st) p H) nx|none=>Y
 | .extract t i=>match ev E t with
  | .xL l=>match l[i]? with|some v=>Z (v,[],nx)|none=>Y
  |_=>Y
 | .call { callee:= .builtin b,args,argTypes }=>da G b argTypes.toList (args.toList.map (ev E)) H nx
 | .call { callee:= .value f,args,.. }=>match ev E f with
  | .pv (.fn f)=>Q0 O f (args.toList.map (ev E)) H nx
  | .XK f a b=>Q0 O f (a++args.toList.map (ev E)++b) H nx
  |_=>Y
 | .makeSlice t l c=>match G.ti t with|some ti=>fg ti.td G.ti (ev E l) (ev E c) nx|none=>Y
 |_=>Y
def Rp(G:GP)(o:Op)(E:uS):V W:=
 match o with
 | .store _ a x=>match ev E a with| .bP _ _ _ _=>(ev E x).rows|_=>[]
 | .buildSlice t _ parts=>if G.mrf t then[]else AV.rows.Jr (parts.toList.map λx=>ev E x.2)
 | .mapUpdate _ _ _ x=>(ev E x).rows
 | .insert _ _ _ x=>(ev E x).rows
 | .entryStore _ _ _ x=>(ev E x).rows
 | .call { callee:= .value f,args,.. }=>match ev E f with
  | .pv (.fn f)=>if G.owned f then[]else AV.rows.Jr (args.toList.map (ev E))
  | .XK f _ _=>if G.owned f then[]else AV.rows.Jr (args.toList.map (ev E))
  |_=>[]
 |_=>[]
def hJ(all:V Oper)(o:Oper)(E:uS):U K:=
 match o.guard with
 |none=>Z T
 |some (j,want)=>match all[j]? with
  |some a=>match a.dst with
   |some d=>match E.get d with
    | .pv (.bool b)=>Z (b==want)
    | .xL []=>Z N
    |_=>Y
   |none=>Z N
  |none=>Z N
def iC(d:U Tmp)(v:AV)(E:uS):uS:=match d with|some d=>(d,v)::E|none=>E
def KW(G:GP)(O:jb)(o:Oper)(s:St):U St:=
 match ry G O o.op s.env s.heap s.nx with
 |some (v,ws,nx)=>Z { env:=iC o.dst v s.env,heap:=zm ws s.heap,nx:=nx }
 |none=>Y
def We(G:GP)(O:jb)(all:V Oper):V Oper->St->U St
 |[],s=>Z s
 |o::r,s=>
  match hJ all o s.env with
  |some T=>match KW G O o (nv (Rp G o.op s.env) s)with
   |some a =>We G O all r a
   |none=>Y
  |some N=>We G O all r { s with env:=iC o.dst (.xL []) s.env }
  |none=>Y
def cn(o:Op)(E:uS)(H:qt):V W:=
 match o with
 | .load _ a=>(ev E a).refs
 | .store _ a _=>(ev E a).refs
 | .binOp _ _ x y _=>(ev E x).refs++(ev E y).refs
 | .convert _ _ x=>(ev E x).refs
 | .slice _ x _ _ _=>(ev E x).refs
 | .indexAddr _ x _=>(ev E x).refs
 | .lookup _ m _ _=>(ev E m).refs
 | .mapUpdate _ m _ _=>(ev E m).refs
 | .insert _ m _ _=>(ev E m).refs
 | .mapEntry _ m _=>(ev E m).refs
 | .entryStore _ m _ _=>(ev E m).refs
 | .call { callee:= .builtin _,args,.. }=>AV.refs.sB (args.toList.map (ev E))
 | .call { callee:= .value f,args,.. }=>match ev E f with
  | .pv (.fn _)=>tD H 400 (AV.refs.sB (args.toList.map (ev E))) []
  | .XK _ a b=>tD H 400 (AV.refs.sB (a++args.toList.map (ev E)++b)) []
  |_=>[]
 |_=>[]
def NU(ms:V W)(o:Oper):W:=o.after.toList.foldl (λm e=>if Region.binds .any e=T then m ||| (1 <<< e.on) ||| ms.getD e.on 0 else m) 0
def ym(a:V W):V Oper->V W
 |[]=>a
 |o::r=>ym (a++[NU a o]) r
def ordered(a:V W)(i j:W):K:=(a.getD j 0).testBit i
def VD:V W->V W->K
 |[],_=>T
 |x::r,L=> !Uu L x&&VD r L
def XJ(c:V W)(j:W)(rd wr:V W):V (W×V W×V W)->K
 |[]=>T
 |(i,b,a)::r=>(ordered c i j || (VD a rd&&VD a wr&&VD b wr))&&XJ c j rd wr r
def rC(a:V W):V (W×V W×V W)->K
 |[]=>T
 |(j,rd,wr)::r=>XJ a j rd wr r&&rC a r
mutual
def PV.wV:PV->PV->K
 | .bool a,.bool b=>a==b
 | .int k a,.int l b=>decide (k=l)&&decide (a=b)
 | .str a,.str b=>decide (a=b)
 | .agg a,.agg b=>PV.ou a b
 | .sl n z a,.sl m y b=>n==m&&decide (z=y)&&PV.fS a b
 | .uI,.uI=>T
 | .iw,.iw=>T
 | .pC,.pC=>T
 | .Qf,.Qf=>T
 | .fn f,.fn g=>decide (f=g)
 | .rp a,.rp b=>PV.ou a b
 |_,_=>N
def PV.ou:V PV->V PV->K
 |[],[]=>T
 |x::r,y::q=>PV.wV x y&&PV.ou r q
 |_,_=>N
def PV.fS:V (V PV)->V (V PV)->K
 |[],[]=>T
 |x::r,y::q=>PV.ou x y&&PV.fS r q
 |_,_=>N
end
def AV.wV:AV->AV->K
 | .pv a,.pv b=>PV.wV a b
 | .ptr b o,.ptr c q=>decide (b=c)&&decide (o=q)
 | .row b v o n,.row c w q m=>decide (b=c)&&decide (v=w)&&decide (o=q)&&decide (n=m)
 | .QZ,.QZ=>T
 | .map b,.map c=>decide (b=c)
 |_,_=>N
def AV.ou:V AV->V AV->K
 |[],[]=>T
 |x::r,y::q=>AV.wV x y&&AV.ou r q
 |_,_=>N
def AV.fS:V (V AV)->V (V AV)->K
 |[],[]=>T
 |x::r,y::q=>AV.ou x y&&AV.fS r q
 |_,_=>N
def qD.wV:qD->qD->K
 | .box a,.box b=>AV.ou a b
 | .row n z a,.row m y b=>n==m&&decide (z=y)&&PV.fS a b
 | .rq z a,.rq y b=>decide (z=y)&&AV.fS a b
 | .xA,.xA=>T
 |_,_=>N
def Dk(H:qt)(β:W)(b:qD):K:=match H.get β with|some c=>qD.wV c b|none=>N
def trim(rd:V W):qt->V (W×qD)->V (W×qD)
 |_,[]=>[]
 |H,(β,b)::r=>if Uu rd β&&Dk H β b then trim rd H r else(β,b)::trim rd (H.put β b) r
def lQ(a:K)(rd:V W)(H:qt)(ws:V (W×qD)):V (W×qD):=match a with|true=>trim rd H ws|false=>ws
def XC:V W->K
 |[]=>N
 |x::r=>x==999999 || XC r
def ig(G:GP)(O:jb)(all:V Oper)(b:K):W->V Oper->St->V (W×V W×V W)->U St
 |_,[],s,a=>if rC (ym [] all) a=T then Z s else Y
 |i,o::r,s,a=>
  match hJ all o s.env with
  |some T=>match ry G O o.op s.env s.heap s.nx with
   |some (v,ws,nx)=>ig G O all b (i+1) r ⟨iC o.dst v s.env,zm (lQ b (cn o.op s.env s.heap) s.heap ws) s.heap,nx⟩ ((i,cn o.op s.env s.heap,(lQ b (cn o.op s.env s.heap) s.heap ws).map (·.1))::a)
   |none=>Y
  |some N=>ig G O all b (i+1) r { s with env:=iC o.dst (.xL []) s.env } a
  |none=>Y
def restrict(E:uS):V W->uS
 |[]=>[]
 |t::r=>(t,E.get t)::restrict E r
def setEnv:uS->W->AV->uS
 |[],n,x=>[(n,x)]
 |(i,v)::r,n,x=>if i=n then(i,x)::r else(i,v)::setEnv r n x
def wv:V W->St->St
 |[],s=>s
 |t::r,s=>match s.env.get t with
  | .pv (.sl T _ [])=>wv r { env:=setEnv s.env t (.row s.nx 0 0 0),heap:=qt.put s.heap s.nx (.row T 0 []),nx:=s.nx+1 }
  |_=>wv r s
def xR:V (W×W)->St->St
 |[],s=>s
 |(t,k)::r,s=>match s.env.get t with
  | .ptr β o=>match s.heap.get β with
   |some (.box c)=>match c[o+k]? with
    |some (.pv (.sl T _ []))=>
     xR r { env:=s.env,heap:=qt.put (qt.put s.heap s.nx (.row T 0 [])) β (.box (c.set (o+k) (.row s.nx 0 0 0))),nx:=s.nx+1 }
    |_=>xR r s
   |_=>xR r s
  |_=>xR r s
def Eh(H:qt):AV->V W
 | .ptr β _=>match H.get β with
  |some (.box c)=>AV.rows.Jr c
  |_=>[]
 |v=>v.rows
def Ta(H:qt)(k:W):AV->V W
 | .ptr β o=>match H.get β with
  |some (.box c)=>match c[o+k]? with|some v=>v.rows|none=>[]
  |_=>[]
 |_=>[]
def ei(E:uS)(H:qt):V W->V W
 |[]=>[]
 |t::r=>(if t<1000 then Eh H (E.get t)else Ta H (t / 1000-1) (E.get (t % 1000)))++ei E H r
def enter(a:sk)(s:St):St:=
 let b:=xR a.xR (wv a.wv s)
 let c:=nv (ei b.env b.heap a.freeze) b
 { c with env:=restrict c.env a.NT }
def ak(n:W):V W->K
 |[]=>T
 |x::r=>decide (x<n)&&ak n r
def uS.below(n:W):uS->K
 |[]=>T
 |(_,v)::r=>ak n v.refs&&uS.below n r
def qt.upto(n:W):qt->qt
 |[]=>[]
 |(i,b)::r=>if i<n then(i,b)::qt.upto n r else qt.upto n r
def qt.below(n:W):qt->K
 |[]=>T
 |(_,b)::r=>ak n b.refs&&qt.below n r
def narrow(a:V W)(n:W)(s:St):U St:=
 let E:=restrict s.env a
 let H:=qt.upto n s.heap
 if uS.below n E&&qt.below n H then Z ⟨E,H,n⟩else Y
def Qe(a:V W)(n:W)(s:St):St:=
 match narrow a n s with
 |some b =>b
 |none=>{ s with env:=restrict s.env a }
def Fl(g:W->W):uS->uS
 |[]=>[]
 |(t,v)::r=>(t,v.aa g)::Fl g r
def BH:uS->V W
 |[]=>[]
 |(_,v)::r=>v.refs++BH r
def canon(a:V W)(n:W)(s:St):U St:=
 match dN s.heap (L? n) (BH (restrict s.env a))with
 |some (L,b)=>Z ⟨Fl (pos L) (restrict s.env a),b,b.length⟩
 |none=>Y
def lE(a:sk)(s:St):U St:=
 if a.own=1000 then Z (enter a s)else
 match a.own with
 |0=>Z (enter a s)
 |k+1=>match canon a.NT s.nx (enter a s)with
  |some b=>if b.nx=s.nx+(k+1)then Z b else Y
  |none=>Y
def KB(a:sk)(n:W)(s:St):U St:=if n<=s.nx then Z { s with env:=restrict s.env a.NT }else Y
def again(a:sk)(n:W)(b :St):U St:=
 if a.own=1000 then KB a n (xR a.xR (wv a.wv b))else
 match a.own with
 |0=>narrow a.NT n b
 |k+1=>match canon a.NT (n-(k+1)) (xR a.xR (wv a.wv b))with
  |some c=>if c.nx=n then Z c else Y
  |none=>Y
def leave(a:sk)(n:W)(b :St):U St:=
 if a.own=1000 then Z { b with env:=restrict b.env a.out }else
 match a.own with
 |0=>Z (Qe a.out n b)
 |k+1=>canon a.out (n-(k+1)) b
def left(ex:Ex):U St->U (Ex×St)
 |some s=>Z (ex,s)
 |none=>Y
def xj:Code->W->U Code
 | .seq a b,i=>match xj a i with|some c=>Z c|none=>xj b i
 | .block id (.loop c),i=>if id=i then Z c else xj c i
 | .block _ c,i=>xj c i
 | .cond _ a b,i=>match xj a i with|some c=>Z c|none=>xj b i
 | .loop c,i=>xj c i
 |_,_=>Y
def pres(G:GP)(f:A)(id:W)(s:St):St:=nv (ei s.env s.heap (G.pre f id)) s
def exec(G:GP)(O:jb)(f:A):Code->St->U (Ex×St)
 | .skip,s=>Z (.normal,s)
 | .region id ops N,s=>match We G O ops.toList ops.toList (sG (G.cmd f (2*id)) s)with|some d =>Z (.normal,sG (G.cmd f (2*id+1)) d)|none=>Y
 | .region id ops T,s=>match ig G O ops.toList (XC (G.pre f id)) 0 ops.toList (pres G f id (sG (G.cmd f (2*id)) s)) []with|some d =>Z (.normal,sG (G.cmd f (2*id+1)) d)|none=>Y
 | .seq a b,s=>match exec G O f a s with
  |some (.normal,d)=>exec G O f b d
  |some (.ret,d)=>Z (.ret,d)
  |some (.exit i,d)=>Z (.exit i,d)
  |none=>Y
 | .cond c t e,s=>match ev s.env c with
  | .pv (.bool b)=>match b with
   |true=>exec G O f t s
   |false=>exec G O f e s
  |_=>Y
 | .block id (.loop _),s=>match lE (G.spec f id) s with
  |some g=>O.loop f id g
  |none=>Y
 | .block id c,s=>match exec G O f c s with
  |some (.exit i,d)=>if i=id then Z (.normal,d)else Z (.exit i,d)
  |some (.normal,d)=>Z (.normal,d)
  |some (.ret,d)=>Z (.ret,d)
  |none=>Y
 | .exit id,s=>Z (.exit id,s)
 | .ret,s=>Z (.ret,s)
 |_,_=>Y
def rK(G:GP)(O:jb)(f:A)(id:W)(s:St):U (Ex×St):=
 match G.fn f with
 |none=>Y
 |some d=>match xj d.body id with
  |none=>Y
  |some c=>match exec G O f c s with
   |some (.normal,a)=>match again (G.spec f id) s.nx (nv (ei a.env a.heap (G.spec f id).freeze) a)with
    |some b =>O.loop f id b
    |none=>Y
   |some (.exit i,a)=>if i=id then left .normal (leave (G.spec f id) s.nx a)else left (.exit i) (leave (G.spec f id) s.nx a)
   |some (.ret,a)=>left .ret (leave (G.spec f id) s.nx a)
   |none=>Y
def BL(G:GP)(s:St):ResultVar->U AV
 | .tmp t=>Z (s.env.get t)
 | .cell a t=>match G.ti t with|some ti=>Jg ti (s.env.get a) s.heap|none=>Y
def oi(G:GP)(s:St):V ResultVar->U (V AV)
 |[]=>Z []
 |r::l=>match BL G s r,oi G s l with
  |some v,Z a=>Z (v::a)
  |_,_=>Y
def XD:V AV->AV
 |[v]=>v
 |l=> .xL l
def unz:AV->AV
 | .QZ=> .pv (.sl N 0 [])
 |v=>v
def finish(m:W)(dP:K)(v:AV)(s:St):U (AV×qt):=
 let b:=if dP then{ s with env:=[(0,v)] }else nv v.rows { s with env:=[(0,v)] }
 let a:=unz (b.env.get 0)
 match dN b.heap (L? m) a.refs with
 |some (L,H)=>Z (a.aa (pos L),H)
 |none=>Y
def dd:W->V AV->uS
 |_,[]=>[]
 |i,v::r=>(i,v)::dd (i+1) r
def Xx(G:GP)(O:jb)(f:A)(args:V AV)(H:qt):U (AV×qt):=
 match G.fn f with
 |none=>Y
 |some a=>if bS 0 H=T then match exec G O f a.body ⟨dd 0 args,H,H.length⟩with
  |some (.exit _,_)=>Y
  |some (_,s)=>match oi G (sG (G.cmd f 999999) s) a.results with
   |some b=>finish H.length (G.dP f) (XD b) (sG (G.cmd f 999999) s)
   |none=>Y
  |none=>Y
  else Y
structure rX where
 call:A->U (V AV->qt->U (AV×qt))
def UE(G:GP)(S:rX):W->jb
 |0=>⟨λ_ _ _=>Y,λ_ _ _=>Y⟩
 |n+1=>⟨λf args H=>match S.call f with|some g=>g args H|none=>Xx G (UE G S n) f args H,λf id s=>rK G (UE G S n) f id s⟩
set_option linter.unusedSectionVars false
def PV.vw:PV->K
 | .agg _=>N
 |_=>T
def AV.vw:AV->K
 | .pv p=>p.vw
 | .agg _| .xL _| .undef=>N
 |_=>T
def eH:Q->K
 | .agg _| .tuple _=>N
 |_=>T
inductive Sk where
 |leaf
 |node (b cap:W) (ks:V Sk)
 deriving Inhabited
structure Pl where
 b:W
 cap:W
 ks:V Sk:=[]
def Pl.wV(p q:Pl):Prop:=p.b=q.b/\p.cap=q.cap
theorem Pl.WL(p:Pl):p.wV p:=⟨rfl,rfl⟩
theorem Pl.Fz{p q r:Pl}(b:p.wV q)(a:q.wV r):p.wV r:=⟨b.1.trans a.1,b.2.trans a.2⟩
def Sk.blocks:Sk->V W
 | .leaf=>[]
 | .node b _ ks=>b::ks.flatMap Sk.blocks
abbrev uT:=W->Pl
def yl(a:W×W)(n:W):Prop:=a.1<=a.2/\ ∀i,i<n-> ¬(a.1<=i/\i<a.2)
inductive RP (w:World) (Im:W->Prop):PV->Q->Prop
 |bool (b:K):RP w Im (.bool b) (.bool b)
 |int (k:IntKind) (n:Int):RP w Im (.int k n) (.int k n)
 |str (l:V UInt8):RP w Im (.str l) (.string ⟨⟨l⟩⟩)
 |agg (c:V PV) (vs:V Q) (hl:c.length=vs.length) (hf: ∀p∈c,p.vw=T)
   (h: ∀(i:W) p v,c[i]? =Z p->vs[i]? =Z v->RP w Im p v):RP w Im (.agg c) (.agg ⟨vs⟩)
 |oZ (sz:W):RP w Im (.sl T sz []) (.slice Y 0 0)
 |sl (sz:W) (es:V (V PV)) (b off cap:W) (vs:W->Q) (Ja:es≠[]->Im b) (VJ:es.length<=cap)
   (rj: ∀e∈es,e.length=sz) (hc: ∀i,i<es.length*sz->w.cell? ⟨b,off+i,Y⟩=Z (vs i))
   (hf: ∀(i:W) e(j:W) p,es[i]? =Z e->e[j]? =Z p->p.vw=T)
   (h: ∀(i:W) e(j:W) p,es[i]? =Z e->e[j]? =Z p->RP w Im p (vs (i*sz+j)))
   (sp:U W) (AN:es≠[]->sp=Y):RP w Im (.sl N sz es) (.slice (Z ⟨b,off,sp⟩) es.length cap)
 |uI:RP w Im .uI (.pointer Y)
 |iw:RP w Im .iw .nilFunc
 |pC:RP w Im .pC (.map Y)
 |Qf:RP w Im .Qf .nilIface
 |fn (f:A):RP w Im (.fn f) (.func (.func f) #[] #[])
 |rp (c:V PV) (b off:W) (vs:W->Q) (Ja:Im b) (hc: ∀i,i<c.length->w.cell? ⟨b,off+i,Y⟩=Z (vs i))
   (hf: ∀p∈c,p.vw=T) (h: ∀(i:W) p,c[i]? =Z p->RP w Im p (vs i)):RP w Im (.rp c) (.pointer (Z ⟨b,off,Y⟩))
inductive ZL (w:World) (Im:W->Prop):V W->PV->Q->Sk->Prop
 |UQ (p:PV) (v:Q) (hs:p.UQ=T) (h:RP w Im p v):ZL w Im [] p v .leaf
 |nil (d:W) (ds:V W):ZL w Im (d::ds) (.sl T 0 []) (.slice Y 0 0) .leaf
 |sl (d:W) (ds:V W) (es:V (V PV)) (b o cap:W) (ks:V Sk) (vs:J Q) (elem:R) (fz:W×W) (hb:w.heap[b]? =Z (.cells vs elem fz)) (hfz:yl fz vs.size)
   (hvs:vs.size=cap*d) (hd:0<d) (hle:es.length<=cap) (ho:0<cap->o=0) (ec: ∀e∈es,e.length=d) (GU:ks.length=es.flatten.length)
   (val:W->Q) (VO: ∀i,i<es.flatten.length->vs[i]? =Z (val i)) (h: ∀(i:W) p k,es.flatten[i]? =Z p->ks[i]? =Z k->ZL w Im ds p (val i) k):
   ZL w Im (d::ds) (.sl N (xB d es) es) (.slice (Z ⟨b,o,Y⟩) es.length cap) (.node b cap ks)
theorem RP.mk{w:World}{c:W->Prop}{b:K}{a:W}{es:V (V PV)}{v:Q}(h:RP w c (.sl b a es) v):RP w c (L4 b a es) v:=by
 cases es with
 |cons _ _=>exact h
 |nil=>cases h with
  |oZ=>exact .oZ 0
  |sl _ _ b off cap d Ja VJ rj hc hf hh e AN=>exact .sl 0 [] b off cap d (λh=>absurd rfl h) (A! _) z? (λi f=>by simp at f) z? z? e (λh=>absurd rfl h)
def qD.isBox:qD->K
 | .box _=>T
 |_=>N
inductive RA (w:World) (H:qt) (ι:uT) (Im:W->Prop):AV->Q->Prop
 |undef (v:Q):RA w H ι Im .undef v
 |pv (p:PV) (v:Q) (h:RP w Im p v):RA w H ι Im (.pv p) v
 |ptr (β o:W) (b:qD) (hb:H.get β=Z b) (hk:b.isBox=T):RA w H ι Im (.ptr β o) (.pointer (Z ⟨(ι β).b,o,Y⟩))
 |bP (β xS i o b' o' :W) (b:qD) (hb:H.get β=Z b) (kA: ∀qx sz l,b.sh=Z (qx,sz,l)->xS<=l)
   (h: ∀qx sz l,b.sh=Z (qx,sz,l)->xS=l->qx=N->b' =(ι β).b/\o' =i*sz+o):
   RA w H ι Im (.bP β xS i o) (.pointer (Z ⟨b',o',Y⟩))
 |row (β xS off n:W) (v:Q) (b:qD) (ho:eH v=T) (hb:H.get β=Z b) (hk:b≠ .xA-> ∃qx sz l,b.sh=Z (qx,sz,l))
   (kA: ∀qx sz l,b.sh=Z (qx,sz,l)->xS<=l)
   (h: ∀qx sz l,b.sh=Z (qx,sz,l)->xS=l->off+n<=l/\
    if qx=T then v= .slice Y 0 0
    else ∃a,v= .slice (Z a) n ((ι β).cap-off)/\a.spot=Y/\a.block=(ι β).b/\(off<(ι β).cap->a.off=off*sz)):
   RA w H ι Im (.row β xS off n) v
 |cE (c:V PV) (o b off:W) (vs:W->Q) (Ja:Im b) (hc: ∀i,i<c.length->w.cell? ⟨b,off+i,Y⟩=Z (vs i))
   (hf: ∀p∈c,p.vw=T) (h: ∀(i:W) p,c[i]? =Z p->RP w Im p (vs i)):
   RA w H ι Im (.cE c o) (.pointer (Z ⟨b,off+o,Y⟩))
 |QZ (a:Addr):RA w H ι Im .QZ (.slice (Z a) 0 0)
 |map (β:W) (es:V (PV×PV×W)) (xf:W) (hb:H.get β=Z (.map es xf)):RA w H ι Im (.map β) (.map (Z (ι β).b))
 |XK (f:A) (a b:V AV) (va vb:V Q) (HW:a.length=va.length) (AH:b.length=vb.length)
   (ha: ∀(i:W) x v,a[i]? =Z x->va[i]? =Z v->RA w H ι Im x v)
   (hb: ∀(i:W) x v,b[i]? =Z x->vb[i]? =Z v->RA w H ι Im x v):RA w H ι Im (.XK f a b) (.func (.func f) ⟨va⟩ ⟨vb⟩)
 |agg (c:V AV) (vs:V Q) (hl:c.length=vs.length) (hf: ∀x∈c,x.vw=T)
   (h: ∀(i:W) x v,c[i]? =Z x->vs[i]? =Z v->RA w H ι Im x v):RA w H ι Im (.agg c) (.agg ⟨vs⟩)
 |xL (c:V AV) (vs:V Q) (hl:c.length=vs.length)
   (h: ∀(i:W) x v,c[i]? =Z x->vs[i]? =Z v->RA w H ι Im x v):RA w H ι Im (.xL c) (.tuple ⟨vs⟩)
def qD.used:qD->K
 | .box _=>T
 | .row a _ _=> !a
 | .map _ _=>T
 | .rq _ _=>T
 | .we a _ _ _=> !a
 | .xA=>N
def qD.AX:qD->K
 | .we _ _ _ _=>T
 |_=>N
def qD.uH(b:qD)(p:Pl)(x:W):Prop:=b.used=T/\(x=p.b\/b.AX=T/\x∈p.ks.flatMap Sk.blocks)
def d8(w:World)(H:qt)(ι:uT)(h:W->Prop)(β:W):qD->Prop
 | .box c=> ∃a elem d,w.heap[(ι β).b]? =Z (.cells a elem d)/\yl d a.size/\c.length=a.size/\
   (∀ x∈c,x.vw=T)/\ ∀(i:W) x v,c[i]? =Z x->a[i]? =Z v->RA w H ι h x v
 | .row T _ es=>es=[]
 | .row N f es=> ∃a elem d,w.heap[(ι β).b]? =Z (.cells a elem d)/\yl d a.size/\a.size=(ι β).cap*f/\0<f/\
   es.length<=(ι β).cap/\(∀ e∈es,e.length=f)/\(∀(i:W) e(j:W) p,es[i]? =Z e->e[j]? =Z p->p.vw=T)/\
   ∀(i:W) e(j:W) p,es[i]? =Z e->e[j]? =Z p-> ∃v,a[i*f+j]? =Z v/\RP w h p v
 | .map es xf=> ∃m:V MapEntry,w.heap[(ι β).b]? =Z (.map ⟨m⟩ xf)/\es.length=m.length/\
   ∀(i:W)(k x:PV)(born:W) e,es[i]? =Z (k,x,born)->m[i]? =Z e->RP w h k e.key/\RP w h x e.val/\e.born=born
 | .rq f es=> ∃a elem d,w.heap[(ι β).b]? =Z (.cells a elem d)/\yl d a.size/\a.size=(ι β).cap*f/\0<f/\
   es.length<=(ι β).cap/\(∀ e∈es,e.length=f)/\(∀(i:W) e(j:W) x,es[i]? =Z e->e[j]? =Z x->x.vw=T)/\
   ∀(i:W) e(j:W) x,es[i]? =Z e->e[j]? =Z x-> ∃v,a[i*f+j]? =Z v/\RA w H ι h x v
 | .we T _ es l=>es=[]/\l=Y
 | .we N n es l=> ∃a elem d,w.heap[(ι β).b]? =Z (.cells a elem d)/\yl d a.size/\a.size=(ι β).cap/\es.length<=(ι β).cap/\(ι β).ks.length=es.length/\
   ((ι β).b::(ι β).ks.flatMap Sk.blocks).Nodup/\(∀ x∈(ι β).ks.flatMap Sk.blocks,x<w.heap.size)/\(∀ j γ g,l=Z (j,γ,g)->j<es.length)/\
   ∀(i:W) p k,es[i]? =Z p->(ι β).ks[i]? =Z k-> ∃v,a[i]? =Z v/\
    ((∀ j γ g,l=Z (j,γ,g)->i≠j)->ZL w h n p v k)/\(∀ γ g,l=Z (i,γ,g)->k= .leaf/\RA w H ι h (.row γ g 0 g) v)
 | .xA=>True
class xY where
 ok:World->Prop
 on:W->Prop
 frame: ∀{w w' :World},ok w->(∀ b,on b->w'.heap[b]? =w.heap[b]?)->ok w'
instance(priority:=low) noGlobs:xY:=⟨λ_=>True,λ_=>False,λ_ _=>trivial⟩
structure zr [xY] (w:World) (H:qt) (ι:uT) (Im:W->Prop):Prop where
 d5: ∀β b,H.get β=Z b->d8 w H ι Im β b
 inj: ∀β β' b b' x,H.get β=Z b->H.get β' =Z b' ->b.uH (ι β) x->b'.uH (ι β') x->β=β'
 im: ∀b,Im b->b<w.heap.size
 Hn: ∀β b x,H.get β=Z b->b.uH (ι β) x-> ¬Im x
 TG:xY.ok w
 HS: ∀b,xY.on b->Im b
theorem xY.go[xY]{w w' :World}{a:W->Prop}(h:xY.ok w)(e: ∀b,xY.on b->a b)(c: ∀b,a b->w'.heap[b]? =w.heap[b]?):xY.ok w' :=xY.frame h λb d=>c b (e b d)
def jJ(x y:qD)(p q:Pl):Prop:=
 match x.sh,y.sh with
 |some (a,c,l),Z (d,e,b)=>l<=b /\(l=b ->a=d/\(a=N->c=e/\p.wV q))
 |some _,Y=>y= .xA
 |none,Z _=>False
 |none,Y=>match x,y with
  | .box _,.box _=>p=q
  | .map _ _,.map _ _=>p=q
  | .xA,.xA=>True
  |_,_=>False
theorem XL{x y:qD}{p q:Pl}{a d:K}{c e l b :W}(g:x.sh=Z (a,c,l))(f:y.sh=Z (d,e,b)):
  jJ x y p q=(l<=b /\(l=b ->a=d/\(a=N->c=e/\p.wV q))):=by unfold jJ;rw[g,f]
theorem XM{x y:qD}{p q:Pl}(h:jJ x y p q){c:K}{b l:W}(e:y.sh=Z (c,b,l)): ∃g a d,x.sh=Z (g,a,d):=by cases f:x.sh with|some q=>exact⟨_,_,_,rfl⟩|none=>unfold jJ at h;rw[f,e]at h;exact(h:False).elim
theorem Tk{x y:qD}{p q:Pl}(h:jJ x y p q){c:K}{b l:W}(f:x.sh=Z (c,b,l)):y= .xA\/ ∃g a d,y.sh=Z (g,a,d):=by unfold jJ at h;rw[f]at h;cases e:y.sh with|none=>rw[e]at h;exact .inl h|some q=>exact .inr ⟨_,_,_,rfl⟩
structure yA (w:World) (H:qt) (ι:uT) (Im:W->Prop) (w' :World) (H' :qt) (ι' :uT) (wc:W->Prop):Prop where
 comp: ∀β b,H.get β=Z b-> ∃b',H'.get β=Z b' /\jJ b b' (ι β) (ι' β)
 im: ∀b,Im b->wc b
 sR: ∀b,wc b->Im b\/w.heap.size<=b\/ ∃β x,H.get β=Z x/\x.uH (ι β) b
 tC: ∀β x z,H'.get β=Z x->x.uH (ι' β) z->w.heap.size<=z\/ ∃β0 x0,H.get β0=Z x0/\x0.uH (ι β0) z
 wV: ∀b,b<w.heap.size->(∀ β x,H.get β=Z x-> ¬x.uH (ι β) b)->w'.heap[b]? =w.heap[b]?
 size:w.heap.size<=w'.heap.size
 io:w'.os=w.os/\w'.output=w.output
theorem ni(b:qD)(p:Pl):jJ b b p p:=by unfold jJ;cases h:b.sh with|some q=>exact⟨ke _,λ_=>⟨rfl,λ_=>⟨rfl,p.WL⟩⟩⟩|none=>cases b<;>first|(simp only[qD.sh]at h;cases h;done)|rfl|exact trivial
theorem Kl{x y z:qD}{p q r:Pl}(f:jJ x y p q)(d:jJ y z q r):jJ x z p r:=by
 have key: ∀{i1 i2 i3:K}{n m l h g j:W},(h<=g/\(h=g->i1=i2/\(i1=N->n=m/\p.wV q)))->(g<=j/\(g=j->i2=i3/\(i2=N->m=l/\q.wV r)))->
   (h<=j/\(h=j->i1=i3/\(i1=N->n=l/\p.wV r))):=by
  intro i1 i2 i3 n m l h g j f d;obtain⟨H,E⟩:=f;obtain⟨a2,b2⟩:=d;refine⟨c! H a2,λe=>?_⟩;obtain⟨i1,v⟩:=E o?;obtain⟨i2,u⟩:=b2 o?;refine⟨i1.trans i2,λhn=>?_⟩;obtain⟨t,h⟩:=v hn;obtain⟨s,g⟩:=u (i1 ▸ hn);exact⟨t.trans s,Pl.Fz h g⟩
 unfold jJ at f d |-;cases o:x.sh with|some a=>(obtain⟨i1,n,h⟩:=a;rw[o]at f;cases k:y.sh with|some b=>(obtain⟨i2,m,g⟩:=b;rw[k]at f d;cases i:z.sh with|some c=>obtain⟨i3,l,j⟩:=c;rw[i]at d;exact key f d|none=>rw[i]at d;exact d)|none=>rw[k]at f d;have w:y= .xA:=f;subst w;cases i:z.sh with|some c=>rw[i]at d;exact(d:False).elim|none=>rw[i]at d;cases z<;>first|rfl|exact(d:False).elim)|none=>rw[o]at f;cases k:y.sh with|some b=>rw[k]at f;exact(f:False).elim|none=>rw[k]at f d;cases i:z.sh with|some c=>rw[i]at d;exact(d:False).elim|none=>rw[i]at d;cases x<;>cases y<;>first|exact(f:False).elim|(cases z<;>first|exact(d:False).elim|exact trivial|exact Eq.trans (f:p=q) (d:q=r))
theorem yA.refl(w:World)(H:qt)(ι:uT)(a:W->Prop):yA w H ι a w H ι a where
 comp:=λβ b h=>⟨b,h,ni b _⟩
 im:=λ_ h=>h
 sR:=λ_ h=> .inl h
 tC:=λβ x z h hu=> .inr ⟨β,x,h,hu⟩
 wV:=λ_ _ _=>rfl
 size:=ke _
 io:=⟨rfl,rfl⟩
theorem yA.trans{w i w2:World}{H H1 n:qt}{ι ι1 ι2:uT}{m k l:W->Prop}
  (a:yA w H ι m i H1 ι1 k) (d:yA i H1 ι1 k w2 n ι2 l):yA w H ι m w2 n ι2 l where
 comp:=λβ b h=>by obtain⟨q,g1,p⟩:=a.comp β b h;obtain⟨b2,g2,o⟩:=d.comp β q g1;exact⟨b2,g2,Kl p o⟩
 im:=λb h=>d.im b (a.im b h)
 sR:=λb h=>by rcases d.sR b h with h|h|⟨β,x,f,hu⟩;exact a.sR b h;exact .inr (.inl (c! a.size h));rcases a.tC β x b f hu with h|⟨β0,e,g,c⟩;exact .inr (.inl h);exact .inr (.inr ⟨β0,e,g,c⟩)
 tC:=λβ x z h hu=>by rcases d.tC β x z h hu with h|⟨β0,e,g,c⟩;exact .inl (c! a.size h);exact a.tC β0 e z g c
 wV:=λb j hn=>by
  have e1:=a.wV b j hn;have e2:=d.wV b (G! j a.size) (λβ x f hu=>by
   rcases a.tC β x b f hu with h|⟨β0,e,g,c⟩
   ·omega
   exact hn β0 e g c)
  exact e2.trans e1
 size:=c! a.size d.size
 io:=⟨d.io.1.trans a.io.1,d.io.2.trans a.io.2⟩
theorem yA.KB[xY]{w c:World}{H H1:qt}{ι ι1:uT}{a f:W->Prop}(hi:zr w H ι a)
  (h:yA w H ι a c H1 ι1 f) (b:W) (d:a b):c.heap[b]? =w.heap[b]? :=
 h.wV b (hi.im b d) λβ x e hu=>hi.Hn β x b e hu d
theorem Zb{w a:World}{b:W}(h:a.heap[b]? =w.heap[b]?)(o:W):a.cell? ⟨b,o,Y⟩=w.cell? ⟨b,o,Y⟩:=by simp only[U',h]
theorem RP.mono{w w' :World}{s wc:W->Prop}(hi: ∀b,s b->wc b)(t: ∀b,s b->w'.heap[b]? =w.heap[b]?)
  {p:PV} {v:Q} (h:RP w s p v):RP w' wc p v:=by induction h with|bool b=>exact .bool b|int k n=>exact .int k n|str l=>exact .str l|agg c a hl g _ d=>exact .agg c a hl g d|oZ o=>exact .oZ o|sl o es b off cap a j y x r g _ u z d=>(refine .sl o es b off cap a (λq=>hi b (j q)) y x (λi m=>?_) g d u z;have q:es≠[]:=by intro e;subst e;simp at m);exact(Zb (t b (j q)) _).trans (r i m)|uI=>exact .uI|iw=>exact .iw|pC=>exact .pC|Qf=>exact .Qf|fn f=>exact .fn f|rp c b off a j r g _ d=>exact .rp c b off a (hi b j) (λi m=>(Zb (t b j) _).trans (r i m)) g d
theorem RA.mono[xY]{w w' :World}{H H' :qt}{ι ι' :uT}{X wc:W->Prop}(hi:zr w H ι X)(q:yA w H ι X w' H' ι' wc)
  {x:AV} {v:Q} (h:RA w H ι X x v):RA w' H' ι' wc x v:=by have hw: ∀b,X b->w'.heap[b]? =w.heap[b]? :=λb m=>q.KB hi b m;induction h with|undef v=>exact .undef v|pv p v h=>exact .pv p v (h.mono q.im hw)|ptr β o b m hk=>(obtain⟨r,g,d⟩:=q.comp β _ m;cases b<;>simp only[qD.isBox,vH]at hk<;>cases r <;>first|exact(d:False).elim|(have P5:ι β=ι' β:=d;rw[P5];exact .ptr β o _ g rfl))|bP β xS i o b1 o1 b m z h=>obtain⟨r,g,d⟩:=q.comp β _ m;refine .bP β xS i o b1 o1 r g ?_ ?_;intro L sz l e;obtain⟨E,k,s,j⟩:=XM d e;rw[XL j e]at d;exact c! (z _ _ _ j) d.1;intro L sz l e hv hn;obtain⟨E,k,s,j⟩:=XM d e;rw[XL j e]at d;have hle:=z _ _ _ j;have hl:s=l:=o?;obtain⟨u,hs⟩:=d.2 hl;obtain⟨hs,t⟩:=hs (by rw[u];exact hn);obtain⟨g1,g2⟩:=h E k s j o? (by rw[u];exact hn);exact⟨by rw[g1,t.1],by rw[g2,hs]⟩|row β xS off n v b ho m hk z h=>obtain⟨r,g,d⟩:=q.comp β _ m;refine .row β xS off n v r ho g ?_ ?_ ?_;intro hd;by_cases h0:b= .xA;(subst h0;cases r with|xA=>exact absurd rfl hd|_=>exact(d:False).elim);obtain⟨_,_,_,j⟩:=hk h0;rcases Tk d j with h|h;exact absurd h hd;exact h;intro L sz l e;obtain⟨E,k,s,j⟩:=XM d e;rw[XL j e]at d;exact c! (z _ _ _ j) d.1;intro L sz l e hv;obtain⟨E,k,s,j⟩:=XM d e;rw[XL j e]at d;have hle:=z _ _ _ j;have hl:s=l:=o?;obtain⟨u,hs⟩:=d.2 hl;obtain⟨h1,P⟩:=h E k s j o?;refine⟨o?, ?_⟩;cases hn:L;obtain⟨hs,t⟩:=hs (by rw[u];exact hn);rw[u,hn]at P;rw[<- t.1,<- t.2,<- hs];exact P;rw[u,hn]at P;exact P|cE c o b off y Ja d hf h=>exact .cE c o b off y (q.im b Ja) (λi jv=>(Zb (hw b Ja) _).trans (d i jv)) hf λi p t=>(h i p t).mono q.im hw|QZ a=>exact .QZ a|map β es xf m=>(obtain⟨r,g,d⟩:=q.comp β _ m;cases r <;>first|exact(d:False).elim|(have P5:ι β=ι' β:=d;rw[P5];exact .map β _ _ g))|XK f a b va vb HW AH _ _ iha ihb=>exact .XK f a b va vb HW AH iha ihb|agg c y hl hf _ ih=>exact .agg c y hl hf ih|xL c y hl _ ih=>exact .xL c y hl ih
def VZ(P:F):TypeDesc->U TD
 | .struct a=>Z (.struct (a.toList.map λf=>(f.offset,P.cellsOf f.type,f.type)))
 | .array n e=>Z (.array n e)
 | .slice e=>Z (.slice e)
 | .map k e=>Z (.map k e)
 | .bool=>Z .bool
 | .int k=>Z (.int k)
 | .string=>Z .string
 | .pointer _=>Z .ptr
 | .func _ _ _=>Z .func
 | .interface _| .tuple _=>Z .other
 |_=>Y
def l6(P:F):W->V Field->K
 |_,[]=>T
 |i,f::r=>f.name != "_" &&f.offset==i&&l6 P (i+P.cellsOf f.type) r
def eqok(P:F)(t:R):K:=
 match P.underlying t with
 |some (.struct a)=> !P.stoodInHeld t&& !P.eqGuardType P.depth t&&l6 P 0 a.toList
 |_=>N
def JL:Q->K
 | .agg _=>T
 |_=>N
def TD.isAgg:TD->K
 | .struct _| .array _ _=>T
 |_=>N
def Xd(P:F)(t:R):K:=
 match P.underlying t with
 |some (.struct a)=>a.toList.all λf=>(P.info? f.type).isSome
 |_=>T
def Eg(P:F)(t:R):U R:=match P.underlying t with|some (.pointer e)=>Z e|_=>Y
def tiOf(P:F)(t:R):U TI:=
 match P.info? t,P.underlying t with
 |some i,Z d=>match VZ P d,i.zero with
  |some td,Z z=>match Qh z.cells.toList with
   |some l=>if l.length=i.size/\JL z=td.isAgg/\(l.all PV.vw)=T/\Xd P t=T then Z ⟨i.size,i.bytes,td,l,eqok P t,Eg P t⟩else Y
   |none=>Y
  |_,_=>Y
 |_,_=>Y
structure xq (P:F) (t:R) (ti:TI):Prop where
 info: ∃i z,P.info? t=Z i/\i.size=ti.size/\i.bytes=ti.bytes/\i.zero=Z z/\Qh z.cells.toList=Z ti.zero/\JL z=ti.td.isAgg
 len:ti.zero.length=ti.size
 vw: ∀p∈ti.zero,p.vw=T
 und: ∃d,P.underlying t=Z d/\VZ P d=Z ti.td
 known:Xd P t=T
 eqk:ti.eq=eqok P t
 pek:ti.pe=Eg P t
theorem tiOf_ok{P:F}{t:R}{ti:TI}(h:tiOf P t=Z ti):xq P t ti:=by
 unfold tiOf at h;split at h<;>try cases h
 rename_i i d hi c;split at h<;>try cases h
 rename_i td z a b;split at h<;>try cases h
 rename_i l hl;split at h<;>try cases h
 rename_i e;obtain⟨k,j,g,f⟩:=e;exact⟨⟨i,z,hi,rfl,rfl,b,hl,j⟩,k,by simpa using g,⟨d,c,a⟩,f,rfl,rfl⟩
theorem qt.zy(H:qt)(β γ:W)(y:qD):(H.put β y).get γ=if γ=β then Z y else H.get γ:=by induction H with|nil=>simp only[qt.put,qt.get];by_cases h:β=γ<;>simp[h,eq_comm]|cons x r b=>obtain⟨i,v⟩:=x;simp only[qt.put];by_cases h:i=β;subst h;simp only[if_true,qt.get];by_cases a:i=γ;simp[a];simp[a,a_ a];simp only[h,if_false,qt.get,b];by_cases a:i=γ;subst a;simp[h];simp[a]
def wh(ι:uT)(β:W)(p:Pl):uT:=λγ=>if γ=β then p else ι γ
@[simp] theorem yz (ι:uT) (β:W) (p:Pl):wh ι β p β=p:=by simp[wh]
theorem si(ι:uT){β γ:W}(p:Pl)(h:γ≠β):wh ι β p γ=ι γ:=by simp[wh,h]
theorem ZL.mono{w w' :World}{l wc:W->Prop}(hi: ∀b,l b->wc b)(s: ∀b,l b->w'.heap[b]? =w.heap[b]?){e:V W}{p:PV}{v:Q}{k:Sk}(h:ZL w l e p v k):
  (∀ x∈k.blocks,w'.heap[x]? =w.heap[x]?)->ZL w' wc e p v k:=by induction h with|UQ p v hs h=>exact λ_=> .UQ p v hs (h.mono hi s)|nil d e=>exact λ_=> .nil d e|sl d e es b o cap ks n elem fz y j f u g t z H val E _ q=>intro m;refine .sl d e es b o cap ks n elem fz (by rw[m b (by simp[Sk.blocks])];exact y) j f u g t z H val E λi p k a c=>q i p k a c λx r=>m x ?_;simp only[Sk.blocks,V.mem_cons,Q!];exact .inr ⟨k,zj c,r⟩
theorem d8.mono[xY]{w w' :World}{H H' :qt}{ι ι' :uT}{y wc:W->Prop}(hi:zr w H ι y)(d:yA w H ι y w' H' ι' wc)
  {β:W} {b:qD} (q:b.used=T->ι' β=ι β/\ ∀x,b.uH (ι β) x->w'.heap[x]? =w.heap[x]?) (h:d8 w H ι y β b):d8 w' H' ι' wc β b:=by have u: ∀b,y b->w'.heap[b]? =w.heap[b]? :=λb hb=>d.KB hi b hb;cases b with|box c=>obtain⟨e1,e2⟩:=q rfl;have e2:=e2 _ ⟨rfl,.inl rfl⟩;obtain⟨m,elem,fz,l,g,f,o,n⟩:=h;exact⟨m,elem,fz,by rw[e1,e2];exact l,g,f,o,λi x v a b=>(n i x v a b).mono hi d⟩|row z sz es=>(cases z with|true=>exact h|false=>obtain⟨e1,e2⟩:=q rfl;have e2:=e2 _ ⟨rfl,.inl rfl⟩;obtain⟨m,elem,fz,l,g,f,o,n,t,s,r⟩:=h;refine⟨m,elem,fz,by rw[e1,e2];exact l,g,by rw[e1];exact f,o,by rw[e1];exact n,t,s,λi e j p a b=>?_⟩;obtain⟨v,g1,g2⟩:=r i e j p a b;exact⟨v,g1,g2.mono d.im u⟩)|map es xf=>obtain⟨e1,e2⟩:=q rfl;have e2:=e2 _ ⟨rfl,.inl rfl⟩;obtain⟨X,l,g,f⟩:=h;refine⟨X,by rw[e1,e2];exact l,g,λi k x born e a b=>?_⟩;obtain⟨g1,g2,g3⟩:=f i k x born e a b;exact⟨g1.mono d.im u,g2.mono d.im u,g3⟩|rq sz es=>obtain⟨e1,e2⟩:=q rfl;have e2:=e2 _ ⟨rfl,.inl rfl⟩;obtain⟨m,elem,fz,l,g,f,o,n,t,s,r⟩:=h;refine⟨m,elem,fz,by rw[e1,e2];exact l,g,by rw[e1];exact f,o,by rw[e1];exact n,t,s,λi e j x a b=>?_⟩;obtain⟨v,g1,g2⟩:=r i e j x a b;exact⟨v,g1,g2.mono hi d⟩|we z ds es ZS=>(cases z with|true=>exact h|false=>obtain⟨e1,e2⟩:=q rfl;obtain⟨m,elem,fz,l,g,f,o,n,t,s,r,h9⟩:=h;refine⟨m,elem,fz,by rw[e1,e2 _ ⟨rfl,.inl rfl⟩];exact l,g,by rw[e1];exact f,by rw[e1];exact o,by rw[e1];exact n,by rw[e1];exact t,λx E=>G! (s x (by rw[<- e1];exact E)) d.size,r,λi p k a b=>?_⟩;rw[e1]at b;obtain⟨v,g1,g2,g3⟩:=h9 i p k a b;exact⟨v,g1,λhj=>(g2 hj).mono d.im u λx E=>e2 x ⟨rfl,.inr ⟨rfl,Q!.mpr ⟨k,zj b,E⟩⟩⟩,λγ L P=>⟨(g3 γ L P).1,(g3 γ L P).2.mono hi d⟩⟩)|xA=>trivial
theorem d8.lt{w:World}{H:qt}{ι:uT}{k:W->Prop}{β:W}{b:qD}(h:d8 w H ι k β b)(hu:b.used=T):(ι β).b<w.heap.size:=by
 have key: ∀o,w.heap[(ι β).b]? =Z o->(ι β).b<w.heap.size:=λo j=>by rcases G' (ι β).b w.heap.size with i|hge;exact i;simp[g_ hge]at j
 cases b with|box c=>obtain⟨d,elem,f,a,_⟩:=h;exact key _ a|row e g es=>(cases e with|true=>cases hu|false=>obtain⟨d,elem,f,a,_⟩:=h;exact key _ a)|map es xf=>obtain⟨xZ,a,_⟩:=h;exact key _ a|rq g es=>obtain⟨d,elem,f,a,_⟩:=h;exact key _ a|we e ds es ZS=>(cases e with|true=>cases hu|false=>obtain⟨d,elem,f,a,_⟩:=h;exact key _ a)|xA=>cases hu
theorem d8.fY{w:World}{H:qt}{ι:uT}{f:W->Prop}{β:W}{b:qD}{x:W}(h:d8 w H ι f β b)(hu:b.uH (ι β) x):x<w.heap.size:=by rcases hu.2 with rfl|⟨d,c⟩;exact h.lt hu.1;cases b<;>simp only[qD.AX,vH]at d;rename_i a ds es ZS;cases a with|true=>exact absurd hu.1 (by simp[qD.used])|false=>obtain⟨vs,elem,fz,h1,h2,h3,h4,h5,h6,e,h8⟩:=h;exact e x c
theorem qD.foot_of{b:qD}{p:Pl}{x:W}(a:b.AX=N)(h:b.uH p x):x=p.b:=by rcases h.2 with h|⟨h,_⟩;exact h;rw[a]at h;cases h
theorem zr.DV[xY]{w w' :World}{H:qt}{ι:uT}{Im:W->Prop}(hi:zr w H ι Im)(β:W)(y:qD)(p:Pl)
  (hold: ∀x,H.get β=Z x->jJ x y (ι β) p) (l:w.heap.size<=w'.heap.size/\w'.os=w.os/\w'.output=w.output)
  (t: ∀b,b<w.heap.size->(∀ x,H.get β=Z x-> ¬x.uH (ι β) b)->w'.heap[b]? =w.heap[b]?)
  (q: ∀z,y.uH p z->w.heap.size<=z\/ ∃x,H.get β=Z x/\x.uH (ι β) z)
  (E:yA w H ι Im w' (H.put β y) (wh ι β p) Im->d8 w' (H.put β y) (wh ι β p) Im β y):
  zr w' (H.put β y) (wh ι β p) Im/\yA w H ι Im w' (H.put β y) (wh ι β p) Im:=by
 have k:yA w H ι Im w' (H.put β y) (wh ι β p) Im:=by refine⟨λγ b a=>?_,λ_ h=>h,λ_ h=> .inl h,λγ x z g hu=>?_,λb a hn=>?_,l.1,l.2⟩;by_cases c:γ=β;subst c;exact⟨y,by simp[qt.zy],by simpa using hold b a⟩;exact⟨b,by simp[qt.zy,c,a],by rw[si ι p c];exact ni b _⟩;by_cases c:γ=β;subst c;simp only[qt.zy,if_true,wO]at g;subst g;rw[yz]at hu;rcases q z hu with h|⟨x,g1,g2⟩;exact .inl h;exact .inr ⟨γ,x,g1,g2⟩;simp only[qt.zy,c,if_false]at g;rw[si ι p c]at hu;exact .inr ⟨γ,x,g,hu⟩;exact t b a λx g hu=>hn β x g hu
 refine⟨⟨λγ b a=>?_,λγ γ' b s z a i hu f =>?_,λb a=>G! (hi.im b a) l.1,λγ b z a hu=>?_, ?_, ?_⟩,k⟩;by_cases c:γ=β;subst c;simp only[qt.zy,if_true,wO]at a;subst a;exact E k;simp only[qt.zy,c,if_false]at a;refine(hi.d5 γ b a).mono hi k (λhu=>⟨si ι p c,λx g=>?_⟩);exact t _ ((hi.d5 γ b a).fY g) λu m L=>c (hi.inj γ β b u x a m g L);(have fresh: ∀δ d,δ≠β->H.get δ=Z d->d.uH (ι δ) z->y.uH p z->False:=by intro δ d v r j n;rcases q z n with h|⟨x,g1,g2⟩;have:=(hi.d5 δ d r).fY j;omega;exact v (hi.inj δ β d x z r g1 j g2));by_cases c:γ=β<;>by_cases e :γ' =β;rw[c,e];subst c;simp only[qt.zy,if_true,wO,e,if_false]at a i;subst a;rw[yz]at hu;rw[si ι p e]at f;exact(fresh γ' s e i f hu).elim;subst e;simp only[qt.zy,if_true,wO,c,if_false]at a i;subst i;rw[yz]at f;rw[si ι p c]at hu;exact(fresh γ b c a hu f).elim;simp only[qt.zy,c,e,if_false]at a i;rw[si ι p c]at hu;rw[si ι p e]at f;exact hi.inj γ γ' b s z a i hu f;by_cases c:γ=β;subst c;simp only[qt.zy,if_true,wO]at a;subst a;rw[yz]at hu;rcases q z hu with h|⟨x,g1,g2⟩;intro o;have:=hi.im _ o;omega;exact hi.Hn γ x z g1 g2;simp only[qt.zy,c,if_false]at a;rw[si ι p c]at hu;exact hi.Hn γ b z a hu;exact xY.go hi.TG hi.HS λb a=>k.KB hi b a;exact hi.HS
theorem noO{H:qt}{β:W}{a:qD}(h:H.get β=Z a)(c:a.AX=N): ∀x,H.get β=Z x->x.AX=N:=λx b=>by rw[h]at b;cases b;exact c
theorem Rq{H:qt}{β:W}(h:H.get β=Y): ∀x,H.get β=Z x->x.AX=N:=λx a=>by rw[h]at a;cases a
theorem zr.put[xY]{w w' :World}{H:qt}{ι:uT}{Im:Nat->Prop}(hi:zr w H ι Im)(β:Nat)(y:qD)(p:Pl)
  (hold: ∀x,H.get β=some x->jJ x y (ι β) p) (rj:w.heap.size<=w'.heap.size/\w'.os=w.os/\w'.output=w.output)
  (Ve: ∀b,b<w.heap.size->(∀ x,H.get β=some x->x.used=true->(ι β).b≠b)->w'.heap[b]? =w.heap[b]?)
  (ee:y.used=true->w.heap.size<=p.b\/ ∃x,H.get β=some x/\x.used=true/\(ι β).b=p.b)
  (ZM:yA w H ι Im w' (H.put β y) (wh ι β p) Im->d8 w' (H.put β y) (wh ι β p) Im β y)
  (VN: ∀x,H.get β=some x->x.AX=false:=by first|(apply noO;assumption;rfl)|(apply Rq;assumption)) (hy:y.AX=false:=by rfl):
  zr w' (H.put β y) (wh ι β p) Im/\yA w H ι Im w' (H.put β y) (wh ι β p) Im:=by refine zr.DV hi β y p hold rj (λb hb hn=>Ve b hb λx hx hu e=>hn x hx ⟨hu,.inl e.symm⟩) (λz hz=>?_) ZM;rw[qD.foot_of hy hz];rcases ee hz.1 with h|⟨x,g1,g2,g3⟩;exact .inl h;exact .inr ⟨x,g1,g2,.inl g3.symm⟩
section
variable [xY] {P:F} {w:World} {H:qt} {ι:uT} {Im:W->Prop}
theorem Ej{v:Q}{p:PV}(h:pvOf v=Z p):RP w Im p v/\p.vw=T/\v.cells= #[v]:=by unfold pvOf at h;split at h<;>cases h;exact⟨.bool _,rfl,rfl⟩;exact⟨.int _ _,rfl,rfl⟩;exact⟨.str _,rfl,rfl⟩;exact⟨.uI,rfl,rfl⟩;exact⟨.oZ _,rfl,rfl⟩;exact⟨.pC,rfl,rfl⟩;exact⟨.iw,rfl,rfl⟩;exact⟨.Qf,rfl,rfl⟩;exact⟨.fn _,rfl,rfl⟩
theorem KP: ∀{b:V Q}{l:V PV},Qh b=Z l->
  l.length=b.length/\(∀ p∈l,p.vw=T)/\ ∀(i:W) p v,l[i]? =Z p->b[i]? =Z v->RP w Im p v
 |[],l,h=>by simp only[Qh,wO]at h;subst h;simp
 |v::r,l,h=>by simp only[Qh]at h;split at h<;>cases h;rename_i p l' c hl;obtain⟨f,e,d⟩:=KP hl;obtain⟨g1,g2,_⟩:=Ej (w:=w) (Im:=Im) c;refine⟨by simp[f],by simpa using⟨g2,e⟩,λi q u a hu=>?_⟩;cases i with|zero=>simp at a hu;subst a hu;exact g1|succ i=>simp at a hu;exact d i q u a hu
theorem avOf_ok(v:Q):RA w H ι Im (avOf v) v:=by unfold avOf;split;split;rename_i cs _ l hl;obtain⟨d,c,b⟩:=KP (w:=w) (Im:=Im) hl;exact .pv _ _ (.agg l cs d c b);exact .undef _;exact .xL [] [] rfl z?;split;rename_i p a;exact .pv _ _ (Ej a).1;exact .undef _
theorem Jm{a:Act}{E:uS}(b: ∀t,RA w H ι Im (E.get t) (a.tmps.getD t undef))(x:D):RA w H ι Im (ev E x) (a.eval x):=by cases x with|tmp t=>exact b t|const v=>exact avOf_ok v|global g=>exact .undef _|func f=>exact .pv _ _ (.fn f)
theorem add_plain(b o n:W):(⟨b,o,Y⟩:Addr).add n=⟨b,o+n,Y⟩:=by unfold Addr.add;split;rename_i h;subst h;rfl;rfl
theorem nT{b o:W}{a:J Q}{elem:R}{c:W×W}(h:w.heap[b]? =Z (.cells a elem c)):
  w.cell? ⟨b,o,Y⟩=a[o]? :=by simp[U',h]
theorem qA{t:R}{d:TypeDesc}(h:P.underlying t=Z d):(underlying t).run P w= .ok d w:=by simp[underlying,h]
theorem mo{t:R}{i:TypeInfo}(h:P.info? t=Z i):(typeInfo t).run P w= .ok i w:=by simp[typeInfo,h]
theorem xq.size{t:R}{ti:TI}(h:xq P t ti):(sizeOf t).run P w= .ok ti.size w:=by obtain⟨i,z,b,a,_⟩:=h.info;simp[sizeOf,mo b,a]
theorem xq.isAgg{t:R}{ti:TI}(h:xq P t ti):(Go.isAgg t).run P w= .ok ti.isAgg w:=by obtain⟨d,b,a⟩:=h.und;unfold Go.isAgg;simp only[w9,qA b,tV];unfold TI.isAgg;generalize ti.td=td at*;cases d<;>simp[VZ]at a<;>subst a<;>rfl
theorem run_loadCellsFrom(b o:W)(c:W->Q): ∀(n i:W)(a:J Q),(∀ j,j<n->w.cell? ⟨b,o+(i+j),Y⟩=Z (c (i+j)))->
  (loadCellsFrom ⟨b,o,Y⟩ i n a).run P w= .ok (a++((L? n).map λj=>c (i+j)).toArray) w
 |0,i,a,_=>by simp[loadCellsFrom]
 |n+1,i,a,h=>by
  have d:=h 0 o?;simp only[a!]at d;have e:=run_loadCellsFrom b o c n (i+1) (a.push (c i)) (λj hj=>by
   have:=h (j+1) o?
   rwa[show i+(j+1)=i+1+j from o?]at this)
  simp only[loadCellsFrom,add_plain,w9,run_load,d,tV,e];congr 1;apply I!;simp[V.range_succ_eq_map,Function.comp_def,Z!,W.add_comm 1]
theorem run_loadCells(b o n:W)(a:W->Q)(h: ∀j,j<n->w.cell? ⟨b,o+j,Y⟩=Z (a j)):
  (loadCells ⟨b,o,Y⟩ n).run P w= .ok ((L? n).map a).toArray w:=by unfold loadCells;rw[run_loadCellsFrom b o a n 0 #[] (λj c=>by simpa using h j c)];simp
theorem Z8: ∀{c:V AV}{l:V PV},X4 c=Z l->c=l.map .pv
 |[],l,h=>by simp[X4]at h;subst h;rfl
 |x::r,l,h=>by (cases x<;>simp only[X4]at h<;>try cases h);split at h<;>cases h;rename_i l' hl;simp[Z8 hl]
theorem Xo{c:V AV}{a:V Q}(hl:c.length=a.length)(d: ∀x∈c,x.vw=T)
  (h: ∀(i:W) x v,c[i]? =Z x->a[i]? =Z v->RA w H ι Im x v):RA w H ι Im (Vi c) (.agg ⟨a⟩):=by unfold Vi;split;rename_i l b;have:=Z8 b;subst this;refine .pv _ _ (.agg l a (by simpa using hl) (λp b=>?_) λi p v f e=>?_);have:=d (.pv p) (by simp[b]);simpa[AV.vw]using this;have:=h i (.pv p) v (by simp[f]) e;cases this;assumption;exact .agg c a hl d h
theorem Di{t:R}{ti:TI}(f:xq P t ti)(b o:W)(c:V AV)(d:W->Q)
  (g: ∀i,i<c.length->w.cell? ⟨b,o+i,Y⟩=Z (d i)) (q: ∀x∈c,x.vw=T)
  (h: ∀(i:W) x,c[i]? =Z x->RA w H ι Im x (d i)) {r:AV} (a:ldA ti c=Z r):
  ∃u,(loadVar t ⟨b,o,Y⟩).run P w= .ok u w/\RA w H ι Im r u:=by unfold ldA at a;unfold loadVar;simp only[w9,f.isAgg,tV];by_cases k:ti.isAgg=T;simp only[k,if_true]at a |-;split at a<;>cases a;rename_i hlen;refine⟨.agg ⟨(L? ti.size).map d⟩, ?_,Xo v? (λx p=>q x (U? p)) ?_⟩;simp only[w9,f.size,tV,run_loadCells b o ti.size d (λj e=>g j o?),H?];intro i x v m l;simp only[Y?,gD]at l;obtain⟨j,e,rfl⟩:=l;by_cases hi:i<ti.size;simp[hi]at e;subst e;rw[G? hi]at m;exact h i x m;simp[hi]at e;simp only[k,vH,if_false]at a |-;cases c with|nil=>cases a|cons x r' =>simp only[wO]at a;have n:=g 0 z?;simp only[a!]at n;refine⟨d 0,by simp[n],a ▸ h 0 x z?⟩
theorem Dj{t:R}{ti:TI}(f:xq P t ti)(b o:W)(c:V PV)(d:W->Q)
  (g: ∀i,i<c.length->w.cell? ⟨b,o+i,Y⟩=Z (d i)) (q: ∀x∈c,x.vw=T)
  (h: ∀(i:W) x,c[i]? =Z x->RP w Im x (d i)) {r:AV} (a:ldP ti c=Z r):
  ∃u,(loadVar t ⟨b,o,Y⟩).run P w= .ok u w/\RA w H ι Im r u:=by unfold ldP at a;unfold loadVar;simp only[w9,f.isAgg,tV];by_cases k:ti.isAgg=T;simp only[k,if_true]at a |-;split at a<;>cases a;rename_i hlen;refine⟨.agg ⟨(L? ti.size).map d⟩, ?_,.pv _ _ (.agg _ _ v? (λx p=>q x (U? p)) ?_)⟩;simp only[w9,f.size,tV,run_loadCells b o ti.size d (λj e=>g j o?),H?];intro i x v m l;simp only[Y?,gD]at l;obtain⟨j,e,rfl⟩:=l;by_cases hi:i<ti.size;simp[hi]at e;subst e;rw[G? hi]at m;exact h i x m;simp[hi]at e;simp only[k,vH,if_false]at a |-;cases c with|nil=>cases a|cons x r' =>simp only[wO]at a;have n:=g 0 z?;simp only[a!]at n;refine⟨d 0,by simp[n],a ▸ .pv _ _ (h 0 x z?)⟩
end
section
variable [xY] {P:F} {w:World} {H:qt} {ι:uT} {Im:W->Prop}
theorem zr.box{β:W}{c:V AV}(hi:zr w H ι Im)(e:H.get β=Z (.box c)):
  ∃a elem d,w.heap[(ι β).b]? =Z (.cells a elem d)/\yl d a.size/\c.length=a.size/\
   (∀ x∈c,x.vw=T)/\ ∀(i:W) x v,c[i]? =Z x->a[i]? =Z v->RA w H ι Im x v:=hi.d5 β _ e
theorem zr.row{β a:W}{es:V (V PV)}(hi:zr w H ι Im)(f:H.get β=Z (.row N a es)):
  ∃c elem d,w.heap[(ι β).b]? =Z (.cells c elem d)/\yl d c.size/\c.size=(ι β).cap*a/\0<a/\
   es.length<=(ι β).cap/\(∀ e∈es,e.length=a)/\(∀(i:W) e(j:W) p,es[i]? =Z e->e[j]? =Z p->p.vw=T)/\
   ∀(i:W) e(j:W) p,es[i]? =Z e->e[j]? =Z p-> ∃v,c[i*a+j]? =Z v/\RP w Im p v:=hi.d5 β _ f
theorem zr.rq{β a:W}{es:V (V AV)}(hi:zr w H ι Im)(f:H.get β=Z (.rq a es)):
  ∃c elem d,w.heap[(ι β).b]? =Z (.cells c elem d)/\yl d c.size/\c.size=(ι β).cap*a/\0<a/\
   es.length<=(ι β).cap/\(∀ e∈es,e.length=a)/\(∀(i:W) e(j:W) x,es[i]? =Z e->e[j]? =Z x->x.vw=T)/\
   ∀(i:W) e(j:W) x,es[i]? =Z e->e[j]? =Z x-> ∃v,c[i*a+j]? =Z v/\RA w H ι Im x v:=hi.d5 β _ f
theorem zr.we{β:W}{f:V W}{es:V PV}{d:U (W×W×W)}(hi:zr w H ι Im)(g:H.get β=Z (.we N f es d)):
  ∃c elem e,w.heap[(ι β).b]? =Z (.cells c elem e)/\yl e c.size/\c.size=(ι β).cap/\es.length<=(ι β).cap/\(ι β).ks.length=es.length/\
   ((ι β).b::(ι β).ks.flatMap Sk.blocks).Nodup/\(∀ x∈(ι β).ks.flatMap Sk.blocks,x<w.heap.size)/\(∀ j γ a,d=Z (j,γ,a)->j<es.length)/\
   ∀(i:W) p k,es[i]? =Z p->(ι β).ks[i]? =Z k-> ∃v,c[i]? =Z v/\
    ((∀ j γ a,d=Z (j,γ,a)->i≠j)->ZL w Im f p v k)/\(∀ γ a,d=Z (i,γ,a)->k= .leaf/\RA w H ι Im (.row γ a 0 a) v):=hi.d5 β _ g
theorem fA(t:R)(a:Addr):(Instr.loadAt t (.pointer (Z a))).run P w=(loadVar t a).run P w:=by unfold Instr.loadAt Instr.sureAddr;simp
theorem mem_of_getElem?{α:Type}{l:V α}{i:W}{x:α}(h:l[i]? =Z x):x∈l:=zj h
theorem PW{t:R}{ti:TI}(L:xq P t ti)(hi:zr w H ι Im){x:AV}{v:Q}(d:RA w H ι Im x v)
  {r:AV} (a:Jg ti x H=Z r): ∃u,(Instr.loadAt t v).run P w= .ok u w/\RA w H ι Im r u:=by
 unfold Jg at a;split at a;{(rename_i β o;split at a<;>try cases a);rename_i c n;cases d;obtain⟨g,elem,fz,E,h2,h3,h4,h5⟩:=hi.box n;rw[fA];refine Di L _ o (c.drop o) (λi=>(g[o+i]?).getD undef) (λi l=>?_) (λx d=>h4 x (j! d)) (λi x d=>?_) a;(rw[nT E];have:o+i<g.size:=by simp at l;omega);simp[this];(rw[h!]at d;have l:o+i<g.size:=by have:=(qK d).1;omega);exact h5 (o+i) x _ d (by simp[l])};{(rename_i β xS i o;split at a<;>try cases a);{(rename_i s es n;split at a<;>try cases a);(rename_i X;split at a<;>try cases a);(rename_i e y;have m:v= .pointer (Z ⟨(ι β).b,i*s+o,Y⟩):=by cases d with|bP _ _ _ _ b1 o1 b q hv h=>rw[n]at q;cases q;obtain⟨rfl,rfl⟩:=h _ _ _ rfl X rfl;rfl);subst m;obtain⟨g,elem,fz,E,h2,h3,h4,h5,h6,h7,z⟩:=hi.row n;rw[fA];refine Dj L _ (i*s+o) (e.drop o) (λj=>(g[i*s+o+j]?).getD undef) (λj l=>?_) (λx d=>?_) (λj p f=>?_) a;(rw[nT E];obtain⟨p,f⟩: ∃p,e[o+j]? =Z p:=by simp at l;exact⟨e[o+j]'(o?),z?⟩);obtain⟨v,g1,_⟩:=z i e (o+j) p y f;rw[Z!,g1];rfl;obtain⟨j,hj⟩:=kS (j! d);exact h7 i e j x y hj;rw[h!]at f;obtain⟨v,g1,g2⟩:=z i e (o+j) p y f;simp only[Z!,g1,i!];exact g2};{(rename_i s es n;split at a<;>try cases a);(rename_i X;split at a<;>try cases a);(rename_i e y;have m:v= .pointer (Z ⟨(ι β).b,i*s+o,Y⟩):=by cases d with|bP _ _ _ _ b1 o1 b q hv h=>rw[n]at q;cases q;obtain⟨rfl,rfl⟩:=h _ _ _ rfl X rfl;rfl);subst m;obtain⟨g,elem,fz,E,h2,h3,h4,h5,h6,h7,z⟩:=hi.rq n;rw[fA];refine Di L _ (i*s+o) (e.drop o) (λj=>(g[i*s+o+j]?).getD undef) (λj l=>?_) (λx d=>?_) (λj p f=>?_) a;(rw[nT E];obtain⟨p,f⟩: ∃p,e[o+j]? =Z p:=by simp at l;exact⟨e[o+j]'(o?),z?⟩);obtain⟨v,g1,_⟩:=z i e (o+j) p y f;rw[Z!,g1];rfl;obtain⟨j,hj⟩:=kS (j! d);exact h7 i e j x y hj;rw[h!]at f;obtain⟨v,g1,g2⟩:=z i e (o+j) p y f;simp only[Z!,g1,i!];exact g2};(rename_i ds es j γ fv n;split at a<;>try cases a);(rename_i hc;obtain⟨X,rfl,rfl⟩:=hc;have m:v= .pointer (Z ⟨(ι β).b,j*1+0,Y⟩):=by cases d with|bP _ _ _ _ b1 o1 b q hv h=>rw[n]at q;cases q;obtain⟨rfl,rfl⟩:=h _ _ _ rfl X rfl;rfl);subst m;obtain⟨g,elem,fz,E,h2,h3,h4,h5,h6,h7,z,h9⟩:=hi.we n;have hj:=z _ _ _ rfl;obtain⟨v0,g1,_,g3⟩:=h9 j es[j] (ι β).ks[j] (by simp[hj]) z?;have g4:=(g3 _ _ rfl).2;rw[fA,show j*1+0=j by omega];refine Di L _ j [.row γ fv 0 fv] (λ_=>v0) (λk l=>?_) (λx d=>by simp at d;subst d;rfl) (λk p f=>?_) a;(rw[nT E];have:k=0:=by simpa using l);subst this;exact g1;cases k with|zero=>simp at f;subst f;exact g4|succ k=>simp at f};rename_i c o;cases d;rename_i b off g Ja hc hf h;rw[fA];refine Dj L _ (off+o) (c.drop o) (λj=>g (o+j)) (λj l=>?_) (λx d=>hf x (j! d)) (λj p f=>?_) a;rw[Z!];exact hc (o+j) (by simp at l;omega);rw[h!]at f;exact h (o+j) p f
 ·rename_i c;cases d with
  |pv _ _ h=>cases h with
   |rp _ b off g Ja hc hf h=>
    rw[fA];exact Dj L _ off c g hc hf h a
 cases a
theorem MG{b o:W}{a:J Q}{elem:R}{c:W×W}{x:Q}(h:w.heap[b]? =Z (.cells a elem c)):
  (w.setCell ⟨b,o,Y⟩ x).heap[b]? =Z (.cells (a.setIfInBounds o x) elem c):=by obtain⟨d,e⟩:=J.getElem?_eq_some_iff.1 h;simp[Z',d,e,J.getElem_modify]
theorem Gf{a:Addr}{x:Q}{b :W}(c:a.block≠b):(w.setCell a x).heap[b]? =w.heap[b]? :=by simp[Z',J.getElem?_modify,c]
theorem MH{a:Addr}{x:Q}:(w.setCell a x).heap.size=w.heap.size:=by simp[Z']
theorem RP.eH{p:PV}{v:Q}(a:p.vw=T)(h:RP w Im p v):eH v=T:=by cases h<;>first|rfl|cases a
theorem RA.eH{x:AV}{v:Q}(a:x.vw=T)(h:RA w H ι Im x v):Go.Gm.eH v=T:=by cases h with|pv p v h=>exact h.eH a|undef=>cases a|agg=>cases a|xL=>cases a|row _ _ _ _ _ _ b=>exact b|_=>rfl
theorem Fw{b o:W}{a:J Q}{elem:R}{d:W×W}{x:Q}(h:w.heap[b]? =Z (.cells a elem d))
  (c:o<a.size) (e:yl d a.size) (hx:eH x=T):(store ⟨b,o,Y⟩ x).run P w= .ok () (w.setCell ⟨b,o,Y⟩ x):=by
 have hc:w.cell? ⟨b,o,Y⟩=Z a[o]:=by rw[nT h];simp[c]
 have hz:w.frozen? ⟨b,o,Y⟩=N:=by have:=e.2 o c;simp only[World.frozen?,h];simp only[K.and_eq_false_iff,decide_eq_false_iff_not];omega
 cases x<;>simp_all [store,S_,eH]
theorem bH(b o:W)(elem:R)(g:W×W): ∀(d:V Q)(i:W)(w:World)(c:J Q),w.heap[b]? =Z (.cells c elem g)->
  yl g c.size->o+i+d.length<=c.size->(∀ x∈d,eH x=T)->
  ∃a,(storeCells ⟨b,o,Y⟩ d i).run P w= .ok () a /\(a.heap.size=w.heap.size/\a.os=w.os/\a.output=w.output)/\(∀ f,f ≠b->a.heap[f]? =w.heap[f]?)/\
   ∃e,a.heap[b]? =Z (.cells e elem g)/\e.size=c.size/\ ∀k,e[k]? =if o+i<=k/\k<o+i+d.length then d[k-(o+i)]? else c[k]?
 |[],i,w,c,h,_,_,_=>by refine⟨w,by simp[storeCells],⟨rfl,rfl,rfl⟩,λ_ _=>rfl,c,h,rfl,λk=>?_⟩;rw[I z?]
 |x::r,i,w,c,h,p,hl,m=>by
  simp only[b?]at hl;have u:=Fw (P:=P) h (o:=o+i) (x:=x) o? p (m x z?);have t:=MG (o:=o+i) (x:=x) h;obtain⟨a,g1,g2,g3,e,g4,g5,g6⟩:=bH b o elem g r (i+1) (w.setCell ⟨b,o+i,Y⟩ x) _ t (by simpa using p)
   v? (λy s=>m y (by simp[s]))
  refine⟨a, ?_,⟨by rw[g2.1,MH],g2.2.1,g2.2.2⟩,λf l=>by rw[g3 f l,Gf (by exact a_ l)],e,g4,by simpa using g5,λk=>?_⟩;simp only[storeCells,add_plain,w9,u,tV,g1];rw[g6 k];simp only[b?,P_];by_cases n:o+(i+1)<=k/\k<o+(i+1)+r.length;rw[C n,C o?];obtain⟨j,rfl⟩: ∃j,k=o+i+(j+1):=⟨k-(o+i+1),o?⟩;rw[show o+i+(j+1)-(o+(i+1))=j from o?,show o+i+(j+1)-(o+i)=j+1 from o?];rfl;rw[I n];by_cases q:o+i=k;subst q;rw[C rfl,C o?,C o?];simp;rw[I q,I o?]
theorem AV.ij{x:AV}{v:Q}(f:RA w H ι Im x v)(hs:x.Sn=T):
  x.cells.length=v.cells.size/\(∀ y∈x.cells,y.vw=T)/\(∀ u∈v.cells.toList,eH u=T)/\
  ∀(i:W) y u,x.cells[i]? =Z y->v.cells.toList[i]? =Z u->RA w H ι Im y u:=by
 have one:x.vw=T->x.cells=[x]->
   x.cells.length=v.cells.size/\(∀ y∈x.cells,y.vw=T)/\(∀ u∈v.cells.toList,eH u=T)/\
   ∀(i:W) y u,x.cells[i]? =Z y->v.cells.toList[i]? =Z u->RA w H ι Im y u:=by
  intro d e1;have g:=f.eH d;have e2:v.cells= #[v]:=by cases v<;>first|rfl|cases g
  rw[e1,e2];refine⟨rfl,by simpa using d,by simpa using g,λi y u b hu=>?_⟩;cases i with
  |zero=>simp at b hu;subst b hu;exact f
  |succ i=>simp at b
 have many: ∀(c:V AV)(a:V Q),c.length=a.length->(∀ x∈c,x.vw=T)->
   (∀(i:W) x v,c[i]? =Z x->a[i]? =Z v->RA w H ι Im x v)-> ∀u∈a,eH u=T:=by
  intro c a hl d h u hu;obtain⟨i,hi⟩:=kS hu;have:i<c.length:=by
   have:=(qK hi).1;omega
  exact(h i c[i] u z? hi).eH (d _ z?)
 cases f with|undef=>cases hs|xL=>cases hs|pv p v h=>(by_cases e:p.vw=T;exact one e (by cases p<;>first|rfl|cases e);cases h with|agg c a hl d h=>(have j : ∀(i:W) x v,(c.map AV.pv)[i]? =Z x->a[i]? =Z v->RA w H ι Im x v:=λi y u b hu=>by simp only[Y?,gD]at b;obtain⟨p,e,rfl⟩:=b;exact .pv _ _ (h i p u e hu));(have k: ∀y∈c.map AV.pv,y.vw=T:=λy b=>by simp only[B?]at b;obtain⟨p,e,rfl⟩:=b;exact d p e);exact⟨by simpa[AV.cells,Q.cells]using hl,k,many _ a (by simpa using hl) k j,j⟩|_=>exact absurd rfl e)|agg c a hl d h=>exact⟨by simpa[AV.cells,Q.cells]using hl,d,many c a hl d h,h⟩|_=>exact one rfl rfl
theorem ve{α:Type}(c a:V α)(o k:W)(ho:o+a.length<=c.length):
  (c.take o++a++c.drop (o+a.length))[k]? =if o<=k/\k<o+a.length then a[k-o]? else c[k]? :=by have hl:(c.take o).length=o:=v?;by_cases b:k<o;rw[I o?,V.append_assoc,c? o?,G? b];by_cases h2:k<o+a.length;rw[C o?,c? v?,J? o?,hl];rw[I o?,J? v?,h!];congr 1;simp only[V.length_append,hl];omega
theorem Xy{t:R}{ti:TI}(b:xq P t ti)(a:Addr)(v:Q)(hs:v.cells.size=ti.size):
  (Instr.storeAt t (.pointer (Z a)) v).run P w=(storeCells a v.cells.toList).run P w:=by unfold Instr.storeAt Instr.sureAddr storeVar;simp[b.size,hs]
theorem BZ{t:R}{ti:TI}(ht:xq P t ti)(hi:zr w H ι Im){y:AV}{d vv:Q}{β c i o:W}(hx:RA w H ι Im (.bP β c i o) d)
  (c1:y.cells.length=vv.cells.size) (c2: ∀x∈y.cells,x.vw=T) (c3: ∀u∈vv.cells.toList,eH u=T)
  (c4: ∀(i:W) x u,y.cells[i]? =Z x->vv.cells.toList[i]? =Z u->RA w H ι Im x u) (hlen:y.cells.length=ti.size)
  {e:W} {es:V (V AV)} (hb:H.get β=Z (.rq e es)) {ws:V (W×qD)} (f:JZ e β c i o ti.size y.cells es=Z ws):
  ∃a ι',(Instr.storeAt t d vv).run P w= .ok () a /\zr a (zm ws H) ι' Im/\yA w H ι Im a (zm ws H) ι' Im/\
   ∃β b g,ws=[(β,g)]/\H.get β=Z b:=by unfold JZ at f;cases f
theorem cw{ks:V Sk}{i x:W}(h:x∈(ks.set i .leaf).flatMap Sk.blocks):x∈ks.flatMap Sk.blocks:=by rw[Q!]at h |-;obtain⟨k,b,a⟩:=h;rcases V.mem_or_eq_of_mem_set b with h|h;exact⟨k,h,a⟩;subst h;simp[Sk.blocks]at a
theorem WC: ∀{ks:V Sk}{i:W},(ks.flatMap Sk.blocks).Nodup->((ks.set i .leaf).flatMap Sk.blocks).Nodup
 |[],i,h=>z?
 |k::r,0,h=>by simp only[V.set_cons_zero,A?,Sk.blocks,V.nil_append];rw[A?,O?]at h;exact h.2.1
 |k::r,i+1,h=>by rw[V.set_cons_succ,A?,O?];rw[A?,O?]at h;exact⟨h.1,WC h.2.1,λa d b c=>h.2.2 a d b (cw c)⟩
theorem q0s{t:R}{ti:TI}(ht:xq P t ti)(hi:zr w H ι Im){y:AV}{E vv:Q}{β xS i o:W}(f:RA w H ι Im (.bP β xS i o) E)(hy:RA w H ι Im y vv)
  {ds:V W} {es:V PV} {ZS:U (W×W×W)} (m:H.get β=Z (.we N ds es ZS)) {ws:V (W×qD)} (g:WN β xS i o ti.size y ds es ZS=Z ws):
  ∃w' ι',(Instr.storeAt t E vv).run P w= .ok () w' /\zr w' (zm ws H) ι' Im/\yA w H ι Im w' (zm ws H) ι' Im/\
   ∃β b b',ws=[(β,b')]/\H.get β=Z b:=by
 unfold WN at g;split at g;rotate_left;cases g;rename_i γ fv n;split at g;rotate_left;cases g;rename_i hc;obtain⟨kA,lG,rfl,rj,rfl,a⟩:=hc;simp only[wO]at g;subst g;have X:E= .pointer (Z ⟨(ι β).b,i*1+0,Y⟩):=by cases f with|bP _ _ _ _ b1 o1 b s hv h=>rw[m]at s;cases s;obtain⟨rfl,rfl⟩:=h _ _ _ rfl kA rfl;rfl
 subst X;rw[show i*1+0=i by omega];have Ue:eH vv=T:=by cases hy with|row _ _ _ _ _ _ ho=>exact ho
 have u:vv.cells= #[vv]:=by cases vv<;>first|rfl|cases Ue
 obtain⟨vs,elem,fz,h1,h2,h3,h4,h5,h6,h7,h8,h9⟩:=hi.we m;obtain⟨w',g1,g2,g3,lA,g4,g5,g6⟩:=bH (P:=P) (ι β).b i elem fz vv.cells.toList 0 w vs h1 h2 (by simp[u];omega) (by simpa[u]using Ue);rw[Xy ht _ _ (by rw[u,rj];rfl)];have hw: ∀b,Im b->w'.heap[b]? =w.heap[b]? :=λb s=>g3 b (λe=>hi.Hn β _ b m ⟨rfl,.inl e⟩ s);obtain⟨r,AK⟩:=o!.1 h6;refine⟨w',wh ι β ⟨(ι β).b,(ι β).cap,(ι β).ks.set i .leaf⟩,g1, ?_⟩;have key:=zr.DV hi (w' :=w') β (.we N ds es (Z (i,γ,n))) ⟨(ι β).b,(ι β).cap,(ι β).ks.set i .leaf⟩
  (λx f=>by rw[m]at f;cases f;simp[jJ,qD.sh,Pl.wV])
  ⟨o?,g2.2⟩ (λb' _ kN=>g3 b' (λe=>kN _ m ⟨rfl,.inl e⟩)) (λz hz=> .inr ⟨_,m,rfl,hz.2.imp id λh=>⟨rfl,cw h.2⟩⟩) (λrF=>by
   refine⟨lA,elem,fz,by simpa using g4,by rw[g5];exact h2,by rw[g5,h3];simp,by simpa using h4,by simpa using h5, ?_,λx f=>?_,λj γ' d l=>?_,λL p k hp q=>?_⟩
   ·simp only[yz]
    exact o!.2 ⟨λh=>r (cw h),WC AK⟩
   ·simp only[yz]at f
    rw[g2.1]
    exact h7 x (cw f)
   ·cases l
    exact lG
   simp only[yz]at q
   have c:=g6 L
   simp only[u,a!,X_,V.size_toArray,b?,V.length_nil,x!]at c
   by_cases v:i=L
   ·subst v
    rw[C o?]at c
    simp only[W.sub_self,i?]at c
    refine⟨vv,c,λh=>absurd rfl (h _ _ _ rfl),λγ' d l=>?_⟩
    cases l
    rw[V.getElem?_set_self o?]at q
    cases q
    exact⟨rfl,hy.mono hi rF⟩
   rw[I o?]at c
   rw[V.getElem?_set_ne v]at q
   obtain⟨v0,k1,k2,k3⟩:=h9 L p k hp q
   refine⟨v0,by rw[c];exact k1,λ_=>?_,λγ' d l=>by cases l;exact absurd rfl v⟩
   refine(k2 λj γ' d l e=>?_).mono rF.im hw λx f=>g3 x λe=>?_
   ·subst e
    rw[l]at a
    simp only[Nt,B]at a
    exact v a.symm
   subst e
   exact r (Q!.2 ⟨k,zj q,f⟩))
 exact⟨key.1,key.2,β,_,_,rfl,m⟩
theorem IF{t:R}{ti:TI}(X:xq P t ti)(hi:zr w H ι Im){x y:AV}{va vv:Q}(hx:RA w H ι Im x va)(L:RA w H ι Im y vv)
  {ws:V (W×qD)} (a:Z7 ti x y H=Z ws):
  ∃w' ι',(Instr.storeAt t va vv).run P w= .ok () w' /\zr w' (zm ws H) ι' Im/\yA w H ι Im w' (zm ws H) ι' Im/\
   ∃β b b',ws=[(β,b')]/\H.get β=Z b:=by
 unfold Z7 at a;split at a;rotate_left;cases a;rename_i q;obtain⟨Ky,hlen⟩:=q;obtain⟨c1,c2,c3,c4⟩:=AV.ij L Ky;have rj:vv.cells.size=ti.size:=o?;split at a
 ·rename_i β o;split at a
  ·rename_i c f;split at a;rotate_left;cases a
   rename_i r;simp only[wO]at a;subst a;cases hx;obtain⟨vs,elem,fz,h1,h2,h3,h4,h5⟩:=hi.box f;obtain⟨w',g1,g2,g3,lA,g4,g5,g6⟩:=bH (P:=P) (ι β).b o elem fz vv.cells.toList 0 w vs h1 h2 v? c3;rw[Xy X _ _ rj];refine⟨w',wh ι β (ι β),g1, ?_⟩;rw[<- hlen]at r |-;have key:=zr.put (VN:=noO f rfl) hi (w' :=w') β (.box (c.take o++y.cells++c.drop (o+y.cells.length))) (ι β) (λx hx=>by rw[f]at hx;cases hx;rfl)
    ⟨o?,g2.2⟩ (λb' _ E=>g3 b' (λe=>E _ f rfl e.symm)) (λ_=> .inr ⟨_,f,rfl,rfl⟩) (λs=>by
     refine⟨lA,elem,fz,by simpa using g4,by rw[g5];exact h2,v?, ?_, ?_⟩
     ·intro x hx
      simp only[t?]at hx
      rcases hx with (hx|hx)|hx
      ·exact h4 x (U? hx)
      ·exact c2 x hx
      exact h4 x (j! hx)
     intro i x v hx n
     rw[ve c y.cells o i r]at hx
     rw[g6 i]at n
     simp only[a!,X_,<- c1]at n
     refine RA.mono hi s ?_
     split at hx
     ·rename_i q
      rw[C q]at n
      exact c4 _ x v hx n
     rename_i q
     rw[I q]at n
     exact h5 i x v hx n)
   exact⟨key.1,key.2,β,_,_,rfl,f⟩
  cases a
 ·rename_i β xS i o;split at a
  ·rename_i l OL;split at a
   ·rename_i sz es f;split at a;rotate_left;cases a;rename_i kA;split at a;rotate_left;cases a;rename_i e s;split at a;rotate_left;cases a;(rename_i r;simp only[wO]at a;subst a;have hvv:va= .pointer (Z ⟨(ι β).b,i*sz+o,Y⟩):=by cases hx with|bP _ _ _ _ b1 o1 b kq n h=>rw[f]at kq;cases kq;obtain⟨rfl,rfl⟩:=h _ _ _ rfl kA rfl;rfl);(subst hvv;obtain⟨vs,elem,fz,h1,h2,h3,h4,h5,h6,h7,h8⟩:=hi.row f;have m :=Z8 OL;have ee:l.length=ti.size:=by rw[<- hlen,m];simp);have lG:i<es.length:=(qK s).1;have SF:e.length=sz:=h6 e (zj s);have e8:i*sz+sz<=vs.size:=by rw[h3,<- T?];exact mulR _ o?
    obtain⟨w',g1,g2,g3,lA,g4,g5,g6⟩:=bH (P:=P) (ι β).b (i*sz+o) elem fz vv.cells.toList 0 w vs h1 h2 v? c3;rw[Xy X _ _ rj];refine⟨w',wh ι β (ι β),g1, ?_⟩;rw[<- ee]at r |-;have sa: ∀(d :W) g,(es.set i (e.take o++l++e.drop (o+l.length)))[d]? =Z g ->
      (d =i/\g =e.take o++l++e.drop (o+l.length))\/(d ≠i/\es[d]? =Z g):=by
     intro d g h;rw[P!]at h;by_cases SI:i=d
     ·subst SI;simp[lG]at h;exact .inl ⟨rfl,by rw[<- h];simp⟩
     simp[SI]at h;exact .inr ⟨a_ SI,h⟩
    have hpf: ∀(j:W) p,l[j]? =Z p->p.vw=T/\ ∀u,vv.cells.toList[j]? =Z u->RP w Im p u:=by (intro j p hp;have L:y.cells[j]? =Z (.pv p):=by rw[m];simp[hp]);refine⟨c2 _ (zj L),λu hu=>?_⟩;have:=c4 j _ u L hu;cases this;assumption
    have key:=zr.put (VN:=noO f rfl) hi (w' :=w') β (.row N sz (es.set i (e.take o++l++e.drop (o+l.length)))) (ι β)
     (λx hx=>by rw[f]at hx;cases hx;simp[jJ,qD.sh,Pl.wV])
     ⟨o?,g2.2⟩ (λb' _ E=>g3 b' (λe=>E _ f rfl e.symm)) (λ_=> .inr ⟨_,f,rfl,rfl⟩) (λrF=>by
      have hw: ∀b,Im b->w'.heap[b]? =w.heap[b]? :=λb f=>rF.KB hi b f
      refine⟨lA,elem,fz,by simpa using g4,by rw[g5];exact h2,by rw[g5,h3];simp,h4,by simpa using h5, ?_, ?_, ?_⟩
      ·intro g HU
       obtain⟨d,z⟩:=kS HU
       rcases sa d g z with ⟨_,rfl⟩|⟨_,h⟩
       ·simp;omega
       exact h6 g (zj h)
      ·intro d g j p z k
       rcases sa d g z with ⟨_,rfl⟩|⟨_,h⟩
       ·rw[ve e l o j r]at k
        split at k
        ·exact(hpf _ p k).1
        exact h7 i e j p s k
       exact h7 d g j p h k
      intro d g j p z k
      have TN:j<sz:=by
       rcases sa d g z with ⟨_,rfl⟩|⟨_,h⟩
       ·have:=(qK k).1
        simp at this
        omega
       have:=(qK k).1
       have:=h6 g (zj h)
       omega
      rw[g6]
      simp only[a!,X_]
      have TT:vv.cells.size=l.length:=o?
      rw[TT]
      rcases sa d g z with ⟨rfl,rfl⟩|⟨E,h⟩
      ·rw[ve e l o j r]at k
       split at k
       ·rename_i q
        rw[C o?,show d *sz+j-(d *sz+o)=j-o from o?]
        obtain⟨u,hu⟩: ∃u,vv.cells.toList[j-o]? =Z u:=⟨vv.cells.toList[j-o]'(v?),z?⟩
        exact⟨u,hu,((hpf _ p k).2 u hu).mono rF.im hw⟩
       rename_i q
       rw[I o?]
       obtain⟨u,hu,a⟩:=h8 d e j p s k
       exact⟨u,hu,a.mono rF.im hw⟩
      obtain⟨u,hu,a⟩:=h8 d g j p h k
      have Wo: ¬(i*sz+o<=d *sz+j/\d *sz+j<i*sz+o+l.length):=by
       rcases G_ E with jv|SG
       ·have:(d +1)*sz<=i*sz:=mulR _ jv
        rw[T?]at this
        omega
       have:(i+1)*sz<=d *sz:=mulR _ SG
       rw[T?]at this
       omega
      rw[I Wo]
      exact⟨u,hu,a.mono rF.im hw⟩)
    exact⟨key.1,key.2,β,_,_,rfl,f⟩
   rename_i sz es f;exact BZ X hi hx c1 c2 c3 c4 hlen f a;cases a
  split at a;rename_i sz es f;exact BZ X hi hx c1 c2 c3 c4 hlen f a;rename_i ds es ZS f;exact q0s X hi hx L f a;cases a
 cases a
end
section
variable [xY] {P:F} {w:World} {H:qt} {ι:uT} {Im:W->Prop}
theorem xq.struct{t:R}{ti:TI}(c:xq P t ti){b:V (W×W×R)}(h:ti.td= .struct b):
  ∃fields,P.underlying t=Z (.struct fields)/\b=fields.toList.map λf=>(f.offset,P.cellsOf f.type,f.type):=by obtain⟨d,e,a⟩:=c.und;rw[h]at a;cases d<;>simp[VZ]at a;exact⟨_,e,a.symm⟩
theorem xq.array{t:R}{ti:TI}(b:xq P t ti){n:W}{e:R}(h:ti.td= .array n e):P.underlying t=Z (.array n e):=by obtain⟨d,c,a⟩:=b.und;rw[h]at a;cases d<;>simp[VZ]at a;obtain⟨rfl,rfl⟩:=a;exact c
theorem xq.slice{t:R}{ti:TI}(b:xq P t ti){e:R}(h:ti.td= .slice e):P.underlying t=Z (.slice e):=by obtain⟨d,c,a⟩:=b.und;rw[h]at a;cases d<;>simp[VZ]at a;obtain rfl:=a;exact c
theorem xq.map{t:R}{ti:TI}(b:xq P t ti){k e:R}(h:ti.td= .map k e):P.underlying t=Z (.map k e):=by obtain⟨d,c,a⟩:=b.und;rw[h]at a;cases d<;>simp[VZ]at a;obtain⟨rfl,rfl⟩:=a;exact c
theorem xq.int{t:R}{ti:TI}(b:xq P t ti){k:IntKind}(h:ti.td= .int k):P.underlying t=Z (.int k):=by obtain⟨d,c,a⟩:=b.und;rw[h]at a;cases d<;>simp[VZ]at a;obtain rfl:=a;exact c
theorem xq.string{t:R}{ti:TI}(b:xq P t ti)(h:ti.td= .string):P.underlying t=Z .string:=by obtain⟨d,c,a⟩:=b.und;rw[h]at a;cases d<;>simp[VZ]at a;exact c
theorem xq.bool{t:R}{ti:TI}(b:xq P t ti)(h:ti.td= .bool):P.underlying t=Z .bool:=by obtain⟨d,c,a⟩:=b.und;rw[h]at a;cases d<;>simp[VZ]at a;exact c
theorem Nh{t:R}(h:0<P.cellsOf t):(sizeOf t).run P w= .ok (P.cellsOf t) w:=by unfold F.cellsOf at h |-;cases hi:P.info? t with|none=>simp[hi]at h|some i=>simp[sizeOf,mo hi]
theorem xq.cellsOf{t:R}{ti:TI}(a:xq P t ti):P.cellsOf t=ti.size:=by obtain⟨i,z,c,b,_⟩:=a.info;simp[F.cellsOf,c,b]
theorem dI(b o:W)(f:Field)(h:0<P.cellsOf f.type):(fieldPlace ⟨b,o,Y⟩ f).run P w= .ok ⟨b,o+f.offset,Y⟩ w:=by unfold fieldPlace;have: ¬P.cellsOf f.type=0:=o?;simp[Nh h,this,add_plain]
theorem HC{t:R}{ti:TI}(ht:xq P t ti){x:AV}{v:Q}(k:RA w H ι Im x v)
  {f:W} {r:AV} (a:Z6 ti.td x f=Z r): ∃u,(Instr.fieldAt t v f).run P w= .ok u w/\RA w H ι Im r u:=by
 unfold Z6 at a;split at a;rotate_left;cases a;rename_i fs X;obtain⟨fields,hu,rfl⟩:=ht.struct X;split at a;rotate_left;cases a;rename_i q s te g;split at a;rotate_left;cases a;rename_i hs;simp only[Y?,gD]at g;obtain⟨fd,g,i⟩:=g;simp only[Prod.mk.injEq]at i;obtain⟨rfl,rfl,rfl⟩:=i;have d:fields[f]? =Z fd:=by rw[<- g];simp
 unfold Instr.fieldAt Instr.sureAddr;split at a;(rename_i β o;cases a;cases k with|ptr _ _ c n hk=>refine⟨.pointer (Z ⟨(ι β).b,o+fd.offset,Y⟩), ?_,.ptr β _ c n hk⟩;simp[qA hu,d,dI _ _ fd hs]);(rename_i β z j o;cases a;cases k with|bP _ _ _ _ y q b n kA h=>refine⟨.pointer (Z ⟨y,q +fd.offset,Y⟩), ?_,.bP β z j _ y _ b n kA λL E es e hv hn=>?_⟩;simp[qA hu,d,dI _ _ fd hs];obtain⟨g1,g2⟩:=h L E es e hv hn;exact⟨g1,o?⟩);(rename_i c o;cases a;cases k with|cE _ _ b off l p m g h=>refine⟨.pointer (Z ⟨b,off+o+fd.offset,Y⟩), ?_, ?_⟩;simp[qA hu,d,dI _ _ fd hs];rw[Z!];exact .cE c _ b off l p m g h)
 ·rename_i c;cases a;cases k with
  |pv _ _ h=>cases h with
   |rp _ b off l p m g h=>
    refine⟨.pointer (Z ⟨b,off+fd.offset,Y⟩), ?_,.cE c _ b off l p m g h⟩;simp[qA hu,d,dI _ _ fd hs]
 cases a
theorem KG{x:AV}{v:Q}(b:RA w H ι Im x v){k:W}(h:uh x=Z k): ∃a,v= .int a (k:Int):=by unfold uh at h;split at h;(split at h<;>cases h;rename_i a n hn;cases b with|pv _ _ h=>cases h;exact⟨a,by rw[q03 hn]⟩);cases h
theorem HD{G:R->U TI}(hG: ∀t ti,G t=Z ti->xq P t ti){t:R}{ti:TI}(ht:xq P t ti)(hi:zr w H ι Im)
  {x y:AV} {v u:Q} (hx:RA w H ι Im x v) (hy:RA w H ι Im y u) {r:AV} (d:cr ti.td G x y H=Z r):
  ∃z,(Instr.indexAt t v u).run P w= .ok z w/\RA w H ι Im r z:=by
 unfold cr at d;split at d;cases d;rename_i k hk;obtain⟨kd,rfl⟩:=KG hy hk;split at d
 ·rename_i e kx;have hu:=ht.slice kx;split at d;cases d;rename_i te eg;have X:=hG _ _ eg;split at d
  ·rename_i qx sz es;split at d;rotate_left;cases d
   rename_i rj;split at d<;>cases d;rename_i c i;have q:k<es.length:=(qK i).1;cases hx with
   |pv _ _ h=>cases h with
    |oZ sz=>simp at q
    |sl _ _ b off cap vs Ja VJ hs U9 hf h sp AN=>
     obtain rfl:=AN (by intro e;subst e;simp at q);refine⟨.pointer (Z ⟨b,off+k*sz,Y⟩), ?_, ?_⟩
     ·unfold Instr.indexAt asIntOf;simp[qA hu,q,X.size,add_plain,rj]
     have:=RA.cE (w:=w) (H:=H) (ι:=ι) (Im:=Im) c 0 b (off+k*sz) (λj=>vs (k*sz+j)) (Ja (by intro e;subst e;simp at q)) (λj hj=>?_) (λp hp=>?_) (λj p hp=>h k c j p i hp)
     ·simpa using this
     ·have AD:=hs c (zj i);rw[Z!];refine U9 _ ?_;have:(k+1)*sz<=es.length*sz:=mulR _ q;rw[T?]at this;omega
     obtain⟨j,hj⟩:=kS hp;exact hf k c j p i hj
  rename_i β xS off n;split at d;(rename_i sz es g;split at d<;>cases d;rename_i i;obtain⟨kA,rj,m⟩:=i;cases hx with|row _ _ _ _ _ b ho E Ka l h=>rw[g]at E;cases E;obtain⟨h1,L⟩:=h _ _ _ rfl kA;simp only[vH,if_false]at L;obtain⟨a,rfl,ZB,s,XR⟩:=L;obtain⟨vs,elem,fz,g1,g2,g3,g4,g5,_⟩:=hi.row g;have f:=XR o?;obtain⟨ab,ao,II⟩:=a;simp only at ZB s f;subst ZB s f;refine⟨.pointer (Z ⟨(ι β).b,off*sz+k*sz,Y⟩), ?_,.bP β xS (off+k) 0 _ _ _ g (λ_ _ _ e=>by cases e;omega) λ_ _ _ e _ _=>?_⟩;unfold Instr.indexAt asIntOf;simp[qA hu,m,X.size,add_plain,rj];cases e;exact⟨rfl,by rw[S?];rfl⟩);(rename_i sz es g;split at d<;>cases d;rename_i i;obtain⟨kA,rj,m⟩:=i;cases hx with|row _ _ _ _ _ b ho E Ka l h=>rw[g]at E;cases E;obtain⟨h1,L⟩:=h _ _ _ rfl kA;simp only[vH,if_false]at L;obtain⟨a,rfl,ZB,s,XR⟩:=L;obtain⟨vs,elem,fz,g1,g2,g3,g4,g5,_⟩:=hi.rq g;have f:=XR o?;obtain⟨ab,ao,II⟩:=a;simp only at ZB s f;subst ZB s f;refine⟨.pointer (Z ⟨(ι β).b,off*sz+k*sz,Y⟩), ?_,.bP β xS (off+k) 0 _ _ _ g (λ_ _ _ e=>by cases e;omega) λ_ _ _ e _ _=>?_⟩;unfold Instr.indexAt asIntOf;simp[qA hu,m,X.size,add_plain,rj];cases e;exact⟨rfl,by rw[S?];rfl⟩);(rename_i ds es ZS g;split at d<;>cases d;rename_i i;obtain⟨kA,rj,m⟩:=i;cases hx with|row _ _ _ _ _ b ho E Ka l h=>rw[g]at E;cases E;obtain⟨h1,L⟩:=h _ _ _ rfl kA;simp only[vH,if_false]at L;obtain⟨a,rfl,ZB,s,XR⟩:=L;obtain⟨vs,elem,fz,g1,g2,g3,g4,_⟩:=hi.we g;have f:=XR o?;obtain⟨ab,ao,II⟩:=a;simp only at ZB s f;subst ZB s f;refine⟨.pointer (Z ⟨(ι β).b,off*1+k*1,Y⟩), ?_,.bP β xS (off+k) 0 _ _ _ g (λ_ _ _ e=>by cases e;omega) λ_ _ _ e _ _=>?_⟩;unfold Instr.indexAt asIntOf;simp[qA hu,m,X.size,add_plain,rj];cases e;exact⟨rfl,by rw[S?];rfl⟩);cases d;cases d
 {rename_i len e kx;have hu:=ht.array kx;split at d;cases d;rename_i te eg;have X:=hG _ _ eg;split at d;rotate_left;cases d;rename_i q;split at d;(rename_i β o;cases d;cases hx with|ptr _ _ c g hk=>refine⟨.pointer (Z ⟨(ι β).b,o+k*te.size,Y⟩), ?_,.ptr β _ c g hk⟩;unfold Instr.indexAt asIntOf Instr.sureAddr;simp[qA hu,q,X.size,add_plain]);(rename_i β xS j o;cases d;cases hx with|bP _ _ _ _ b' o' b g kA h=>refine⟨.pointer (Z ⟨b',o' +k*te.size,Y⟩), ?_,.bP β xS j _ b' _ b g kA λqx sz es e hv hn=>?_⟩;unfold Instr.indexAt asIntOf Instr.sureAddr;simp[qA hu,q,X.size,add_plain];obtain⟨g1,g2⟩:=h qx sz es e hv hn;exact⟨g1,o?⟩);(rename_i c o;cases d;cases hx with|cE _ _ b off vs Ja i hf h=>refine⟨.pointer (Z ⟨b,off+o+k*te.size,Y⟩), ?_, ?_⟩;unfold Instr.indexAt asIntOf Instr.sureAddr;simp[qA hu,q,X.size,add_plain];rw[Z!];exact .cE c _ b off vs Ja i hf h);cases d};cases d
theorem T0{t:R}{ti:TI}(o:xq P t ti){x:AV}{v:Q}(d:RA w H ι Im x v){off:W}{r:AV}
  (a:PZ ti x off=Z r): ∃cs u,v= .agg cs/\(part t cs off).run P w= .ok u w/\RA w H ι Im r u:=by
 have key: ∀(c:V AV)(b:V Q),c.length=b.length->(∀ x∈c,x.vw=T)->
   (∀(i:W) x v,c[i]? =Z x->b[i]? =Z v->RA w H ι Im x v)->ldA ti (c.drop off)=Z r-> ∃u,(part t ⟨b⟩ off).run P w= .ok u w/\RA w H ι Im r u:=by
  intro c b hl f h a;unfold ldA at a;unfold part;simp only[w9,o.isAgg,tV];by_cases g:ti.isAgg=T
  ·simp only[g,if_true]at a |-;split at a<;>cases a;rename_i hlen;refine⟨.agg ⟨(b.drop off).take ti.size⟩,by simp[o.size],Xo v? (λx d=>f x (j! (U? d))) ?_⟩;intro i x v m q;by_cases hi:i<ti.size
   ·rw[G? hi,h!]at m q;exact h _ x v m q
   have:=(qK m).1;simp at this;omega
  simp only[g,vH,if_false]at a |-;split at a<;>cases a;rename_i x s k;have d:c[off]? =Z r:=by
   have:=congrArg (λl=>l[0]?) k;simpa using this
  have n:off<b.length:=by rw[<- hl];exact(qK d).1
  refine⟨b[off], ?_,h off r _ d (by simp[n])⟩;have:(⟨b⟩:J Q)[off]? =Z b[off]:=by simp[n]
  simp[this]
 unfold PZ at a;split at a
 ·rename_i c;cases d with
  |pv _ _ h=>cases h with
   |agg _ b hl f h=>
    have E:ldA ti ((c.map AV.pv).drop off)=Z r:=by
     rw[<- V.map_drop];unfold ldP at a;unfold ldA;by_cases g:ti.isAgg=T
     ·simp only[g,if_true,j_]at a |-;split at a<;>cases a;rename_i hlen;rw[C hlen,<- V.map_take];congr 1;unfold Vi;have: ∀l:V PV,X4 (l.map AV.pv)=Z l:=by
       intro l;induction l with
       |nil=>rfl
       |cons x r z=>simp[X4,z]
      rw[this]
     simp only[g,vH,if_false]at a |-;split at a<;>cases a;rename_i x s k;simp[k]
    obtain⟨u,g1,g2⟩:=key (c.map .pv) b (by simpa using hl) (λy e=>by
     simp only[B?]at e
     obtain⟨p,j,rfl⟩:=e
     exact f p j) (λi y u e hu=>by
     simp only[Y?,gD]at e
     obtain⟨p,j,rfl⟩:=e
     exact .pv _ _ (h i p u j hu)) E
    exact⟨_,u,rfl,g1,g2⟩
 (rename_i c;cases d with|agg _ b hl f h=>obtain⟨u,g1,g2⟩:=key c b hl f h a;exact⟨_,u,rfl,g1,g2⟩);cases a
end
section
variable [xY] {P:F} {w:World} {H:qt} {ι:uT} {Im:W->Prop}
def Bd(X:W->Prop)(H:qt)(nx:W):Prop:= ∀β b,H.get β=Z b->β<nx\/X β
def cp(X:W->Prop)(w:World)(H:qt)(ι:uT)(Im:W->Prop)(nx:W)(e:ru)(u:Q)(a :World):Prop:=
 ∃ι',zr a (zm e.2.1 H) ι' Im/\yA w H ι Im a (zm e.2.1 H) ι' Im/\RA a (zm e.2.1 H) ι' Im e.1 u/\nx<=e.2.2/\
  Bd X (zm e.2.1 H) e.2.2
theorem cp.pure(hi:zr w H ι Im){nx:W}{X:W->Prop}(a:Bd X H nx){r:AV}{u:Q}(h:RA w H ι Im r u):
  cp X w H ι Im nx (r,[],nx) u w:=⟨ι,hi,yA.refl _ _ _ _,h,ke _,a⟩
theorem U6{nx:W}{X:W->Prop}(a:Bd X H nx)(c: ¬X nx):H.get nx=Y:=by cases h:H.get nx with|none=>rfl|some b=>rcases a nx b h with h|h;omega;exact absurd h c
theorem gG{nx:W}{X:W->Prop}(a:Bd X H nx){γ:W}{y:qD}{n:W}(hn:nx<=n)(c:γ<n\/X γ):Bd X (zm [(γ,y)] H) n:=by intro β b h;simp only[zm,qt.zy]at h;split at h;rename_i e;subst e;exact c;rcases a β b h with h|h;exact .inl o?;exact .inr h
theorem l5{X:W->Prop}{nx:W}(h: ∀γ,X γ->nx+1<=γ): ¬X nx:=λa=>by have:=h _ a;omega
theorem zr.new(hi:zr w H ι Im){nx:Nat}{X:Nat->Prop}(jN:Bd X H nx)(hX: ¬X nx)(w' :World)(y:qD)(o:Obj)(cap:Nat)
  (hw:w'.heap=w.heap.push o) (hio:w'.os=w.os/\w'.output=w.output)
  (ZM: ∀ι',ι' nx=⟨w.heap.size,cap,[]⟩->yA w H ι Im w' (H.put nx y) ι' Im->d8 w' (H.put nx y) ι' Im nx y) (hyO:y.AX=false:=by rfl):
  ∃ι',ι' nx=⟨w.heap.size,cap,[]⟩/\zr w' (H.put nx y) ι' Im/\yA w H ι Im w' (H.put nx y) ι' Im:=by
 have hf:=U6 jN hX;obtain⟨h1,h2⟩:=zr.put (VN:=Rq hf) (hy:=hyO) hi (w' :=w') nx y ⟨w.heap.size,cap,[]⟩ (λx hx=>by rw[hf]at hx;cases hx) ⟨by rw[hw];simp,hio⟩
  (λb hb _=>by rw[hw];simp[Array.getElem?_push,Nat.ne_of_lt hb]) (λ_=> .inl (ke _))
  (ZM _ z?)
 exact⟨_,z?,h1,h2⟩
theorem wC(n:W):yl (0,0) n:=⟨ke _,λi _ h=>by simp at h⟩
theorem E7(hi:zr w H ι Im){nx:W}{X:W->Prop}(b:Bd X H nx)(l: ¬X nx)(c:V AV)(a:V Q)(elem:R)
  (hl:c.length=a.length) (j: ∀x∈c,x.vw=T) (h: ∀(i:W) x v,c[i]? =Z x->a[i]? =Z v->RA w H ι Im x v):
  cp X w H ι Im nx (.ptr nx 0,[(nx,.box c)],nx+1) (.pointer (Z ⟨w.heap.size,0,Y⟩)) { w with heap:=w.heap.push (.cells ⟨a⟩ elem) }:=by
 obtain⟨ι',o,n,m⟩:=zr.new hi b l { w with heap:=w.heap.push (.cells ⟨a⟩ elem) } (.box c) (.cells ⟨a⟩ elem) 0 rfl ⟨rfl,rfl⟩ (λι' f k=>by
  refine⟨⟨a⟩,elem,(0,0),by simp[f],wC _,by simpa using hl,j,λi x v d e=>?_⟩
  exact(h i x v d (by simpa using e)).mono hi k)
 refine⟨ι',n,m, ?_,z?,gG b z? (.inl z?)⟩;have g:(zm [(nx,qD.box c)] H).get nx=Z (.box c):=by simp[zm,qt.zy]
 have:=RA.ptr (w:={ w with heap:=w.heap.push (.cells ⟨a⟩ elem) }) (ι:=ι') (Im:=Im) nx 0 _ g rfl;rw[o]at this;exact this
theorem JT(t:R)(v:Q):(newVar t v).run P w= .ok ⟨w.heap.size,0,Y⟩ { w with heap:=w.heap.push (.cells v.cells t) }:=by simp[newVar,newRow]
theorem J2{t:R}{ti:TI}(a:xq P t ti): ∃z,(zeroValue t).run P w= .ok z w/\ti.zero.length=z.cells.size/\
  (∀(i:W) p v,ti.zero[i]? =Z p->z.cells.toList[i]? =Z v->RP w Im p v)/\JL z=ti.td.isAgg:=by obtain⟨i,z,e,h2,h3,d,c,b⟩:=a.info;obtain⟨g1,g2,g3⟩:=KP (w:=w) (Im:=Im) c;refine⟨z,by simp[zeroValue,mo e,d],by simpa using g1,g3,b⟩
theorem Iy{t:R}{ti:TI}(c:xq P t ti)(hi:zr w H ι Im){nx:W}{X:W->Prop}(d:Bd X H nx)(f: ¬X nx):
  ∃u w',(Instr.alloc t T (.tuple #[])).run P w= .ok u w' /\cp X w H ι Im nx (.ptr nx 0,[(nx,.box (ti.zero.map .pv))],nx+1) u w' :=by obtain⟨z,j,h,g,_⟩:=J2 (w:=w) (Im:=Im) c;refine⟨_,_, ?_,E7 hi d f (ti.zero.map .pv) z.cells.toList t (by simpa using h) (λx a=>?_) (λi x v a e=>?_)⟩;unfold Instr.alloc;simp[j,JT];simp only[B?]at a;obtain⟨p,b,rfl⟩:=a;exact c.vw p b;simp only[Y?,gD]at a;obtain⟨p,b,rfl⟩:=a;exact .pv _ _ (g i p v b e)
theorem Ce{G:GP}{t:R}{ti:TI}(ht:xq P t ti)(hi:zr w H ι Im){nx:W}{X:W->Prop}(jN:Bd X H nx){e:ru}(a:Kg G t ti nx=Z e)(hX: ∀γ,X γ->e.2.2<=γ):
  ∃u w',(Instr.alloc t T (.tuple #[])).run P w= .ok u w' /\cp X w H ι Im nx e u w' :=by unfold Kg at a;cases a
theorem aBox_ok{t:R}(hi:zr w H ι Im){nx:W}{X:W->Prop}(a:Bd X H nx)(c: ¬X nx){x:AV}{v:Q}(b:RA w H ι Im x v)(hs:x.Sn=T):
  ∃u w',(Instr.box t v).run P w= .ok u w' /\cp X w H ι Im nx (.ptr nx 0,[(nx,.box x.cells)],nx+1) u w' :=by obtain⟨f,e,c3,d⟩:=AV.ij b hs;refine⟨_,_, ?_,E7 hi a c x.cells v.cells.toList t (by simpa using f) e d⟩;unfold Instr.box;simp[JT]
theorem aBoxF_ok{t:R}(hi:zr w H ι Im){x:AV}{v:Q}(f:RA w H ι Im x v)(hs:x.Sn=T){l:V PV}(hl:X4 x.cells=Z l):
    ∃u d e,(Instr.box t v).run P w= .ok u d /\zr d H ι e/\yA w H ι Im d H ι e/\RA d H ι e (.pv (.rp l)) u:=by
  obtain⟨n,y,c3,s⟩:=AV.ij f hs
  have k:=Z8 hl
  have hold: ∀b,b<w.heap.size->(w.heap.push (.cells v.cells t))[b]? =w.heap[b]? :=λb c=>by simp[J_,B' c]
  have j:yA w H ι Im { w with heap:=w.heap.push (.cells v.cells t) } H ι (λb=>Im b\/b=w.heap.size):=
    { comp:=λβ b h=>⟨b,h,ni b _⟩
      im:=λ_ h=> .inl h
      sR:=λb h=>by
        rcases h with h|h
        · exact .inl h
        · exact .inr (.inl o?)
      tC:=λβ x z h hu=> .inr ⟨β,x,h,hu⟩
      wV:=λb c _=>hold b c
      size:=z?
      io:=⟨rfl,rfl⟩ }
  refine⟨.pointer (Z ⟨w.heap.size,0,Y⟩), { w with heap:=w.heap.push (.cells v.cells t) },λb=>Im b\/b=w.heap.size, ?_, ?_,j, ?_⟩
  · unfold Instr.box
    simp[JT]
  · exact{
      d5:=λβ b c=>(hi.d5 β b c).mono hi j (λhu=>⟨rfl,λx f=>hold _ ((hi.d5 β b c).fY f)⟩)
      inj:=hi.inj
      im:=λb h=>by
        rcases h with h|h
        · have:=hi.im b h;simp;omega
        · simp;omega
      Hn:=λβ b z c hu h=>by
        rcases h with h|h
        · exact hi.Hn β b z c hu h
        · have:=(hi.d5 β b c).fY hu;omega
      TG:=xY.go hi.TG hi.HS λb c=>hold b (hi.im b c)
      HS:=λb c=> .inl (hi.HS b c) }
  · refine .pv _ _ (.rp l w.heap.size 0 (λi=>(v.cells[i]?).getD undef) (.inr rfl) (λi o=>?_) (λp g=>?_) (λi p g=>?_))
    · have a :i<v.cells.size:=by rw[<- n,k];simpa using o
      simp[U',a]
    · have:=y (.pv p) (by rw[k];exact B?.2 ⟨p,g,rfl⟩)
      exact this
    · have m:x.cells[i]? =Z (.pv p):=by rw[k];simp[g]
      have a :i<v.cells.size:=by rw[<- n];exact(qK m).1
      have r:v.cells.toList[i]? =Z v.cells[i]:=by simp[a]
      have q:=(s i _ _ m r).mono hi j
      simp only[a,J.getElem?_eq_getElem,i!]
      cases q with|pv _ _ h=>exact h
theorem GF(off:W): ∀(l:V Q)(j:W)(cs:J Q),off+j+l.length<=cs.size->
  ((l.zipIdx j).foldl (λcs (c,j)=>cs.setIfInBounds (off+j) c) cs).size=cs.size/\
  ∀k,((l.zipIdx j).foldl (λcs (c,j)=>cs.setIfInBounds (off+j) c) cs)[k]? =if off+j<=k/\k<off+j+l.length then l[k-(off+j)]? else cs[k]?
 |[],j,cs,_=>⟨rfl,λk=>by rw[I z?];rfl⟩
 |x::r,j,cs,h=>by simp only[b?]at h;obtain⟨e,d⟩:=GF off r (j+1) (cs.setIfInBounds (off+j) x) v?;simp only[V.zipIdx_cons,V.foldl_cons];refine⟨by simpa using e,λk=>?_⟩;rw[d k];simp only[b?,P_];by_cases a:off+(j+1)<=k/\k<off+(j+1)+r.length;rw[C a,C o?];obtain⟨m,rfl⟩: ∃m,k=off+j+(m+1):=⟨k-(off+j+1),o?⟩;rw[show off+j+(m+1)-(off+(j+1))=m from o?,show off+j+(m+1)-(off+j)=m+1 from o?];rfl;rw[I a];by_cases b:off+j=k;subst b;rw[C rfl,C o?,C o?];simp;rw[I b,I o?]
theorem lF(off:W)(l:J Q)(cs:J Q)(h:off+l.size<=cs.size):
  (l.zipIdx.foldl (λcs (c,j)=>cs.setIfInBounds (off+j) c) cs).size=cs.size/\
  ∀k,(l.zipIdx.foldl (λcs (c,j)=>cs.setIfInBounds (off+j) c) cs)[k]? =if off<=k/\k<off+l.size then l[k-off]? else cs[k]? :=by have a:=GF off l.toList 0 cs (by simpa using h);rw[<- J.foldl_toList];simpa using a
def A9(w:World)(H:qt)(ι:uT)(Im:W->Prop)(c:V AV)(cs:J Q):Prop:=
 c.length=cs.size/\(∀ x∈c,x.vw=T)/\ ∀(i:W) x v,c[i]? =Z x->cs[i]? =Z v->RA w H ι Im x v
theorem YW{a:Act}{E:uS}(m: ∀t,RA w H ι Im (E.get t) (a.tmps.getD t undef))(zw l:W->U (W×W))
  (n: ∀i x,zw i=Z x->l i=Z x): ∀(parts:V (W×D))(c:V AV)(cs:J Q),A9 w H ι Im c cs->
  ∀{r:V AV},Xe zw (ev E) parts c=Z r-> ∃d,Instr.fill l cs (parts.map λ(i,x)=>(i,a.eval x))=Z d/\A9 w H ι Im r d
 |[],c,cs,g,r,h=>by simp only[Xe,wO]at h;subst h;exact⟨cs,rfl,g⟩
 |(i,x)::rest,c,cs,g,r,h=>by simp only[Xe]at h;split at h;rotate_left;cases h;rename_i off size p;split at h;rotate_left;cases h;(rename_i z;obtain⟨hs,hl,ho⟩:=z;have o:=Jm m x;obtain⟨c1,s,c3,q⟩:=AV.ij o hs;obtain⟨d1,d2,d3⟩:=g;have e:(a.eval x).cells.size=size:=o?;obtain⟨f1,f2⟩:=lF off (a.eval x).cells cs o?;have L:A9 w H ι Im (c.take off++(ev E x).cells++c.drop (off+size)) ((a.eval x).cells.zipIdx.foldl (λcs (c,j)=>cs.setIfInBounds (off+j) c) cs):=by refine⟨by rw[f1];simp;omega,λy hy=>?_,λk y v hy b=>?_⟩;simp only[t?]at hy;rcases hy with (hy|hy)|hy;exact d2 y (U? hy);exact s y hy;exact d2 y (j! hy);rw[<- hl,ve c (ev E x).cells off k o?]at hy;rw[f2 k,e,<- hl]at b;split at hy;rename_i f;rw[C f]at b;exact q _ y v hy (by simpa using b);rename_i f;rw[I f]at b;exact d3 k y v hy b);(obtain⟨d,g1,g2⟩:=YW m zw l n rest _ _ L h;refine⟨d, ?_,g2⟩;simp only[e?,Instr.fill,n _ _ p];have u: ¬(decide ((a.eval x).cells.size≠size) || decide (off+(a.eval x).cells.size>cs.size))=T:=by simp only[w!,B];omega);rw[I u];exact g1
theorem VX(fields:J Field)(a:Field->W)(h: ∀f∈fields.toList,(sizeOf f.type).run P w= .ok (a f) w):
  (fields.mapM λf=>do pure (f.offset,<- sizeOf f.type):Sem _).run P w= .ok (fields.map λf=>(f.offset,a f)) w:=by
 rw[J.mapM_eq_mapM_toList];have key: ∀(l:V Field),(∀ f∈l,(sizeOf f.type).run P w= .ok (a f) w)->
   (l.mapM λf=>do pure (f.offset,<- sizeOf f.type):Sem _).run P w= .ok (l.map λf=>(f.offset,a f)) w:=by
  intro l;induction l with
  |nil=>intro _;simp
  |cons f r b=>
   intro h;have e:=h f z?;have d:=b λg c=>h g (by simp[c]);simp only[V.mapM_cons,w9,e,tV,H?,d,e?]
 simp only[Sem.run_map,key fields.toList h,tV];congr 1;apply I!;simp
theorem S8{t:R}{i:TypeInfo}(h:P.info? t=Z i):(sizeOf t).run P w= .ok (P.cellsOf t) w:=by simp[sizeOf,mo h,F.cellsOf,h]
theorem Iz{G:R->U TI}(hG: ∀t ti,G t=Z ti->xq P t ti){t:R}{ti:TI}(h:xq P t ti)
  {a:Act} {E:uS} (L: ∀t,RA w H ι Im (E.get t) (a.tmps.getD t undef)) (parts:J (W×D)) {r:AV} (d:Ys ti G (ev E) parts.toList=Z r):
  ∃u,(Instr.build t (parts.map λ(i,x)=>(i,a.eval x))).run P w= .ok u w/\RA w H ι Im r u:=by
 obtain⟨z,h1,h2,h3,h4⟩:=J2 (w:=w) (Im:=Im) h;have y:A9 w H ι Im (ti.zero.map .pv) z.cells:=by refine⟨by simpa using h2,λx b=>?_,λi x v b g=>?_⟩;simp only[B?]at b;obtain⟨p,m,rfl⟩:=b;exact h.vw p m;simp only[Y?,gD]at b;obtain⟨p,m,rfl⟩:=b;exact .pv _ _ (h3 i p v m (by simpa using g))
 have X:(parts.map λ(i,x)=>(i,a.eval x)).toList=parts.toList.map λ(i,x)=>(i,a.eval x):=z?;unfold Ys at d;unfold Instr.build;simp only[w9,h1,tV];split at d
 ·rename_i fs l;obtain⟨fields,hu,rfl⟩:=h.struct l;have n: ∀f∈fields.toList,(sizeOf f.type).run P w= .ok (P.cellsOf f.type) w:=by intro f j;have o:=h.known;unfold Xd at o;rw[hu]at o;have:=V.all_eq_true.1 o f j;obtain⟨i,hi⟩:=U.isSome_iff_exists.1 this;exact S8 hi
  split at d<;>cases d;rename_i c q;obtain⟨k,g1,g2⟩:=YW L _ ((fields.map λf=>(f.offset,P.cellsOf f.type))[·]?) (λi x b=>by
   unfold Xc at b
   simp only[Y?]at b
   cases j:fields.toList[i]? with
   |none=>simp[j]at b
   |some f=>
    simp only[j,O!,wO]at b
    have:fields[i]? =Z f:=by rw[<- j];simp
    simp[this,<- b]) parts.toList _ _ y q
  simp only[qA hu,tV,w9,VX fields _ n,X,g1];exact⟨.agg k,z?,Xo (by simpa using g2.1) g2.2.1 λi x v b g=>g2.2.2 i x v b (by simpa using g)⟩
 {rename_i len e l;have hu:=h.array l;split at d;rotate_left;cases d;rename_i s eg;split at d<;>cases d;rename_i c q;obtain⟨k,g1,g2⟩:=YW L _ (λi=>Z (i*s.size,s.size)) (λi x b=>b) parts.toList _ _ y q;simp only[qA hu,tV,w9,(hG _ _ eg).size,X,g1];exact⟨.agg k,z?,Xo (by simpa using g2.1) g2.2.1 λi x v b g=>g2.2.2 i x v b (by simpa using g)⟩};cases d
end
section
variable [xY] {P:F} {w:World} {H:qt} {ι:uT} {Im:W->Prop}
def jI(w:World)(Im:W->Prop)(a:W)(es:V (V PV))(cs:W->U Q):Prop:=
 (∀ e∈es,e.length=a)/\(∀(i:W) e(j:W) p,es[i]? =Z e->e[j]? =Z p->p.vw=T)/\
 ∀(i:W) e(j:W) p,es[i]? =Z e->e[j]? =Z p-> ∃v,cs (i*a+j)=Z v/\RP w Im p v
theorem jI.mono{w' :World}{wc:W->Prop}(hi: ∀b,Im b->wc b)(d: ∀b,Im b->w'.heap[b]? =w.heap[b]?){c:W}{es:V (V PV)}
  {cs:W->U Q} (h:jI w Im c es cs):jI w' wc c es cs:=
 ⟨h.1,h.2.1,λi e j p a b=>let⟨v,g1,g2⟩:=h.2.2 i e j p a b;⟨v,g1,g2.mono hi d⟩⟩
theorem Yd(hi:zr w H ι Im){nx:W}{X:W->Prop}(i:Bd X H nx)(u: ¬X nx)(a:W)(es:V (V PV))(cs:J Q)(elem:R)
  (c:W×W) (cap:W) (w' :World) (j:w'.heap=w.heap.push (.cells cs elem c)) (f:w'.os=w.os/\w'.output=w.output) (g:yl c cs.size) (m:0<a) (s:cs.size=cap*a)
  (y:es.length<=cap) (h:jI w Im a es (cs[·]?)):
  cp X w H ι Im nx (.row nx es.length 0 es.length,[(nx,.row N a es)],nx+1) (.slice (Z ⟨w.heap.size,0,Y⟩) es.length cap) w' :=by
 obtain⟨ι',l,x,v⟩:=zr.new hi i u w' (.row N a es) (.cells cs elem c) cap j f (λι' d k=>by
  have q: ∀b,Im b->w'.heap[b]? =w.heap[b]? :=λb t=>k.KB hi b t
  obtain⟨p,o,n⟩:=h.mono k.im q
  exact⟨cs,elem,c,by simp[d,j],g,by simp[d,s],m,by simp[d,y],p,o,n⟩)
 refine⟨ι',x,v, ?_,z?,gG i z? (.inl z?)⟩;have r:(zm [(nx,qD.row N a es)] H).get nx=Z (.row N a es):=by simp[zm,qt.zy]
 refine .row nx _ 0 _ _ _ rfl r (λ_=>⟨_,_,_,rfl⟩) (λ_ _ _ e=>by cases e;exact ke _) λ_ _ _ e _=>?_;cases e;refine⟨z?, ?_⟩;simp only[vH,if_false];exact⟨⟨w.heap.size,0,Y⟩,by simp[l],rfl,by simp[l],λ_=>z?⟩
def rb(w:World)(H:qt)(ι:uT)(Im:W->Prop)(a:W)(es:V (V AV))(cs:W->U Q):Prop:=
 (∀ e∈es,e.length=a)/\(∀(i:W) e(j:W) x,es[i]? =Z e->e[j]? =Z x->x.vw=T)/\
 ∀(i:W) e(j:W) x,es[i]? =Z e->e[j]? =Z x-> ∃v,cs (i*a+j)=Z v/\RA w H ι Im x v
theorem rb.mono{w' :World}{H' :qt}{ι' :uT}{wc:W->Prop}(hi:zr w H ι Im)(d:yA w H ι Im w' H' ι' wc){c:W}{es:V (V AV)}
  {cs:W->U Q} (h:rb w H ι Im c es cs):rb w' H' ι' wc c es cs:=
 ⟨h.1,h.2.1,λi e j p a b=>let⟨v,g1,g2⟩:=h.2.2 i e j p a b;⟨v,g1,g2.mono hi d⟩⟩
theorem new_arow(hi:zr w H ι Im){nx:W}{X:W->Prop}(g:Bd X H nx)(r: ¬X nx)(a:W)(es:V (V AV))(cs:J Q)(elem:R)
  (b:W×W) (cap:W) (w' :World) (i:w'.heap=w.heap.push (.cells cs elem b)) (d:w'.os=w.os/\w'.output=w.output) (f:yl b cs.size) (k:0<a) (q:cs.size=cap*a)
  (u:es.length<=cap) (h:rb w H ι Im a es (cs[·]?)):
  cp X w H ι Im nx (.row nx es.length 0 es.length,[(nx,.rq a es)],nx+1) (.slice (Z ⟨w.heap.size,0,Y⟩) es.length cap) w' :=by
 obtain⟨ι',j,t,s⟩:=zr.new hi g r w' (.rq a es) (.cells cs elem b) cap i d (λι' c p=>by
  obtain⟨n,m,l⟩:=h.mono hi p
  exact⟨cs,elem,b,by simp[c,i],f,by simp[c,q],k,by simp[c,u],n,m,l⟩)
 refine⟨ι',t,s, ?_,z?,gG g z? (.inl z?)⟩;have o:(zm [(nx,qD.rq a es)] H).get nx=Z (.rq a es):=by simp[zm,qt.zy]
 refine .row nx _ 0 _ _ _ rfl o (λ_=>⟨_,_,_,rfl⟩) (λ_ _ _ e=>by cases e;exact ke _) λ_ _ _ e _=>?_;cases e;refine⟨z?, ?_⟩;simp only[vH,if_false];exact⟨⟨w.heap.size,0,Y⟩,by simp[j],rfl,by simp[j],λ_=>z?⟩
theorem KM{x:AV}{v:Q}(b:RA w H ι Im x v){p:PV}(h:UK x=Z p):RP w Im p v:=by unfold UK at h;split at h<;>cases h;cases b;assumption;cases b with|QZ a=>exact .sl 0 [] a.block a.off 0 (λ_=>undef) (λh=>absurd rfl h) (A! _) z? (λi c=>by simp at c) z? z? a.spot (λh=>absurd rfl h)
theorem PV.ij{p:PV}{v:Q}(h:RP w Im p v):p.cells.length=v.cells.size/\(∀ q∈p.cells,q.vw=T)/\
  ∀(i:W) q u,p.cells[i]? =Z q->v.cells[i]? =Z u->RP w Im q u:=by by_cases b:p.vw=T;(have d:=h.eH b;have e1:p.cells=[p]:=by cases p<;>first|rfl|cases b);(have e2:v.cells= #[v]:=by cases v<;>first|rfl|cases d);(rw[e1,e2];refine⟨rfl,by simpa using b,λi q u a hu=>?_⟩;cases i with|zero=>simp at a hu;subst a hu;exact h|succ i=>simp at a);cases h with|agg c vs hl e h=>exact⟨by simpa[PV.cells,Q.cells]using hl,e,λi q u a hu=>h i q u a (by simpa[Q.cells]using hu)⟩|_=>exact absurd rfl b
theorem YY{a:Act}{E:uS}(o: ∀t,RA w H ι Im (E.get t) (a.tmps.getD t undef))(size:W): ∀(parts:V (W×D))(es:V (V PV))(cs:J Q),
  cs.size=es.length*size->jI w Im size es (cs[·]?)->
  ∀{r:V (V PV)},df size (ev E) parts es=Z r-> ∃k,Instr.fill (λi=>Z (i*size,size)) cs (parts.map λ(i,x)=>(i,a.eval x))=Z k/\
   r.length=es.length/\k.size=es.length*size/\jI w Im size r (k[·]?)
 |[],es,cs,hs,f,r,h=>by simp only[df,wO]at h;subst h;exact⟨cs,rfl,rfl,hs,f⟩
 |(i,x)::rest,es,cs,hs,f,r,h=>by
  simp only[df]at h;split at h;rotate_left;cases h;rename_i p X;split at h;rotate_left;cases h;(rename_i TJ;obtain⟨ee,n⟩:=TJ;have z:=KM (Jm o x) X;obtain⟨c1,c2,c3⟩:=PV.ij z;have hvs:(a.eval x).cells.size=size:=o?;have e8:i*size+size<=cs.size:=by rw[hs,<- T?];exact mulR _ n);obtain⟨f1,f2⟩:=lF (i*size) (a.eval x).cells cs o?;have l: ∀(b :W) c,(es.set i p.cells)[b]? =Z c ->(b =i/\c =p.cells)\/(b ≠i/\es[b]? =Z c):=by intro b c h;rw[P!]at h;by_cases m:i=b;subst m;simp[n]at h;exact .inl ⟨rfl,h.symm⟩;simp[m]at h;exact .inr ⟨a_ m,h⟩
  obtain⟨k,g1,g2,g3,g4⟩:=YY o size rest (es.set i p.cells) _ (by rw[f1];simpa using hs) (by
   refine⟨λe he=>?_,λb c j q g d=>?_,λb c j q g d=>?_⟩
   ·obtain⟨b,g⟩:=kS he
    rcases l b e g with ⟨_,rfl⟩|⟨_,h⟩
    ·exact ee
    exact f.1 e (zj h)
   ·rcases l b c g with ⟨_,rfl⟩|⟨_,h⟩
    ·exact c2 q (zj d)
    exact f.2.1 b c j q h d
   have TN:j<size:=by
    have h1:=(qK d).1
    rcases l b c g with ⟨_,rfl⟩|⟨_,h⟩
    ·omega
    have:=f.1 c (zj h)
    omega
   show ∃v,_/\_
   simp only[f2]
   rcases l b c g with ⟨rfl,rfl⟩|⟨s,h⟩
   ·rw[C o?,show b *size+j-b *size=j from o?]
    obtain⟨u,hu⟩: ∃u,(a.eval x).cells[j]? =Z u:=⟨(a.eval x).cells[j]'(o?),z?⟩
    exact⟨u,hu,c3 j q u d hu⟩
   obtain⟨u,hu,L⟩:=f.2.2 b c j q h d
   have Wo: ¬(i*size<=b *size+j/\b *size+j<i*size+(a.eval x).cells.size):=by
    rcases G_ s with y|SG
    ·have:(b +1)*size<=i*size:=mulR _ y
     rw[T?]at this
     omega
    have:(i+1)*size<=b *size:=mulR _ SG
    rw[T?]at this
    omega
   rw[I Wo]
   exact⟨u,hu,L⟩) h
  (refine⟨k, ?_,by simpa using g2,by simpa using g3,g4⟩;have VN: ¬(decide ((a.eval x).cells.size≠size) || decide (i*size+(a.eval x).cells.size>cs.size))=T:=by simp only[w!,B];omega);simp only[e?,Instr.fill];rw[I VN];exact g1
theorem V4{a:Act}{E:uS}(o: ∀t,RA w H ι Im (E.get t) (a.tmps.getD t undef))(size:W): ∀(parts:V (W×D))(es:V (V AV))(cs:J Q),
  cs.size=es.length*size->rb w H ι Im size es (cs[·]?)->
  ∀{r:V (V AV)},sO size (ev E) parts es=Z r-> ∃k,Instr.fill (λi=>Z (i*size,size)) cs (parts.map λ(i,x)=>(i,a.eval x))=Z k/\
   r.length=es.length/\k.size=es.length*size/\rb w H ι Im size r (k[·]?)
 |[],es,cs,hs,f,r,h=>by simp only[sO,wO]at h;subst h;exact⟨cs,rfl,rfl,hs,f⟩
 |(i,x)::rest,es,cs,hs,f,r,h=>by
  simp only[sO]at h;split at h;rotate_left;cases h;(rename_i TJ;obtain⟨Ky,L,n⟩:=TJ;obtain⟨c1,c2,_,X⟩:=AV.ij (Jm o x) Ky;have hvs:(a.eval x).cells.size=size:=o?;have e8:i*size+size<=cs.size:=by rw[hs,<- T?];exact mulR _ n);obtain⟨f1,f2⟩:=lF (i*size) (a.eval x).cells cs o?;have l: ∀(b :W) c,(es.set i (ev E x).cells)[b]? =Z c ->(b =i/\c =(ev E x).cells)\/(b ≠i/\es[b]? =Z c):=by intro b c h;rw[P!]at h;by_cases m:i=b;subst m;simp[n]at h;exact .inl ⟨rfl,h.symm⟩;simp[m]at h;exact .inr ⟨a_ m,h⟩
  obtain⟨k,g1,g2,g3,g4⟩:=V4 o size rest (es.set i (ev E x).cells) _ (by rw[f1];simpa using hs) (by
   refine⟨λe z=>?_,λb c j q g d=>?_,λb c j q g d=>?_⟩
   ·obtain⟨b,g⟩:=kS z
    rcases l b e g with ⟨_,rfl⟩|⟨_,h⟩
    ·exact L
    exact f.1 e (zj h)
   ·rcases l b c g with ⟨_,rfl⟩|⟨_,h⟩
    ·exact c2 q (zj d)
    exact f.2.1 b c j q h d
   have TN:j<size:=by
    have h1:=(qK d).1
    rcases l b c g with ⟨_,rfl⟩|⟨_,h⟩
    ·omega
    have:=f.1 c (zj h)
    omega
   show ∃v,_/\_
   simp only[f2]
   rcases l b c g with ⟨rfl,rfl⟩|⟨p,h⟩
   ·rw[C o?,show b *size+j-b *size=j from o?]
    obtain⟨u,hu⟩: ∃u,(a.eval x).cells[j]? =Z u:=⟨(a.eval x).cells[j]'(o?),z?⟩
    exact⟨u,hu,X j q u d (by simpa using hu)⟩
   obtain⟨u,hu,y⟩:=f.2.2 b c j q h d
   have Wo: ¬(i*size<=b *size+j/\b *size+j<i*size+(a.eval x).cells.size):=by
    rcases G_ p with s|SG
    ·have:(b +1)*size<=i*size:=mulR _ s
     rw[T?]at this
     omega
    have:(i+1)*size<=b *size:=mulR _ SG
    rw[T?]at this
    omega
   rw[I Wo]
   exact⟨u,hu,y⟩) h
  (refine⟨k, ?_,by simpa using g2,by simpa using g3,g4⟩;have VN: ¬(decide ((a.eval x).cells.size≠size) || decide (i*size+(a.eval x).cells.size>cs.size))=T:=by simp only[w!,B];omega);simp only[e?,Instr.fill];rw[I VN];exact g1
theorem MZ{a:TI}{t:R}(d:xq P t a){z:Q}(m:a.zero.length=z.cells.size)
  (l: ∀(i:W) p v,a.zero[i]? =Z p->z.cells.toList[i]? =Z v->RP w Im p v) (len:W):
  jI w Im a.size (f? len a.zero) (((F! (len*a.size)).map (z.cells[· % z.cells.size]!))[·]?):=by
 refine⟨λe h=>?_,λi e j p hi c=>?_,λi e j p hi c=>?_⟩;rw[List.eq_of_mem_replicate h,d.len];rw[y_]at hi;split at hi<;>cases hi;exact d.vw p (zj c);rw[y_]at hi;split at hi<;>cases hi;rename_i f;have AE:=(qK c).1;have hl:=d.len;have k:i*a.size+j<len*a.size:=by have:(i+1)*a.size<=len*a.size:=mulR _ f;rw[T?]at this;omega
 have g:(i*a.size+j) % z.cells.size=j:=by rw[<- m,hl,W!,W.mul_add_mod];exact W.mod_eq_of_lt o?
 have b:j<z.cells.size:=o?;refine⟨z.cells[j], ?_,l j p _ c (by simp[b])⟩;simp[k,g,b]
theorem Yt{G:R->U TI}(p: ∀t ti,G t=Z ti->xq P t ti){t e:R}{ti b:TI}(m:xq P t ti)(k:ti.td= .slice e)(y:G e=Z b)
  (hi:zr w H ι Im) {nx:W} {X:W->Prop} (l:Bd X H nx) (o: ¬X nx)
  {a:Act} {E:uS} (q: ∀t,RA w H ι Im (E.get t) (a.tmps.getD t undef)) (len:W) (parts:J (W×D)) (L:0<b.size) (hlen:len*b.size<=2^24)
  {es:V (V PV)} (n:df b.size (ev E) parts.toList (f? len b.zero)=Z es):
  ∃u w',(Instr.buildSlice t len (parts.map λ(i,x)=>(i,a.eval x))).run P w= .ok u w' /\
   cp X w H ι Im nx (.row nx es.length 0 es.length,[(nx,.row N b.size es)],nx+1) u w' :=by
 have f:=p _ _ y;obtain⟨z,v,s,r,h4⟩:=J2 (w:=w) (Im:=Im) f;have c:=MZ (w:=w) (Im:=Im) f s r len;obtain⟨h,g1,g2,g3,g4⟩:=YY q b.size parts.toList _ _ z? c n;have g:es.length=len:=by simpa using g2
 have Wp:(parts.map λ(i,x)=>(i,a.eval x)).toList=parts.toList.map λ(i,x)=>(i,a.eval x):=z?;refine⟨.slice (Z ⟨w.heap.size,0,Y⟩) es.length es.length, { w with heap:=w.heap.push (.cells h e) }, ?_,Yd hi l o b.size es h e (0,0) es.length _ rfl ⟨rfl,rfl⟩ (wC _) L (by rw[g3,g];simp) (ke _) g4⟩;unfold Instr.buildSlice;simp only[w9,qA (m.slice k),tV,f.size];rw[Wp];have VN: ¬(len*b.size>2^24):=o?;by_cases j:len*b.size=0;simp only[j]at g1 |-;have d:((F! 0).map λx=>(#[]:J Q)[x % (#[]:J Q).size]!)=((F! 0).map (z.cells[· % z.cells.size]!)):=z?;simp only[q1s,q1d,gt_iff_lt,if_false,H?,tV,if_true,w9,d,g1,g];simp[newRow];simp only[VN,if_false,H?,tV,j,w9,v,g1,g];simp[newRow]
theorem zeroRowA{d:W}{z:V PV}{len:W}{cs:W->U Q}(h:jI w Im d (f? len z) cs):rb w H ι Im d (f? len (z.map AV.pv)) cs:=by
 have get: ∀(i:W) e,(f? len (z.map AV.pv))[i]? =Z e->(f? len z)[i]? =Z z/\e=z.map AV.pv:=by intro i e h;rw[y_]at h |-;split at h<;>cases h;rename_i f;exact⟨C f,rfl⟩
 refine⟨λe g=>?_,λi e j x hi a=>?_,λi e j x hi a=>?_⟩;obtain⟨i,hi⟩:=kS g;obtain⟨b,rfl⟩:=get i e hi;rw[j_];exact h.1 z (zj b);obtain⟨b,rfl⟩:=get i e hi;rw[Y?,gD]at a;obtain⟨p,c,rfl⟩:=a;exact h.2.1 i z j p b c;obtain⟨b,rfl⟩:=get i e hi;rw[Y?,gD]at a;obtain⟨p,c,rfl⟩:=a;obtain⟨v,g1,g2⟩:=h.2.2 i z j p b c;exact⟨v,g1,.pv _ _ g2⟩
theorem Vw{G:R->U TI}(p: ∀t ti,G t=Z ti->xq P t ti){t e:R}{ti b:TI}(m:xq P t ti)(k:ti.td= .slice e)(y:G e=Z b)
  (hi:zr w H ι Im) {nx:W} {X:W->Prop} (l:Bd X H nx) (o: ¬X nx)
  {a:Act} {E:uS} (q: ∀t,RA w H ι Im (E.get t) (a.tmps.getD t undef)) (len:W) (parts:J (W×D)) (L:0<b.size) (hlen:len*b.size<=2^24)
  {es:V (V AV)} (n:sO b.size (ev E) parts.toList (f? len (b.zero.map .pv))=Z es):
  ∃u w',(Instr.buildSlice t len (parts.map λ(i,x)=>(i,a.eval x))).run P w= .ok u w' /\
   cp X w H ι Im nx (.row nx es.length 0 es.length,[(nx,.rq b.size es)],nx+1) u w' :=by
 have f:=p _ _ y;obtain⟨z,v,s,r,h4⟩:=J2 (w:=w) (Im:=Im) f;have c:=zeroRowA (H:=H) (ι:=ι) (MZ (w:=w) (Im:=Im) f s r len);obtain⟨h,g1,g2,g3,g4⟩:=V4 q b.size parts.toList _ _ z? c n;have g:es.length=len:=by simpa using g2
 have Wp:(parts.map λ(i,x)=>(i,a.eval x)).toList=parts.toList.map λ(i,x)=>(i,a.eval x):=z?;refine⟨.slice (Z ⟨w.heap.size,0,Y⟩) es.length es.length, { w with heap:=w.heap.push (.cells h e) }, ?_,new_arow hi l o b.size es h e (0,0) es.length _ rfl ⟨rfl,rfl⟩ (wC _) L (by rw[g3,g];simp) (ke _) g4⟩;unfold Instr.buildSlice;simp only[w9,qA (m.slice k),tV,f.size];rw[Wp];have VN: ¬(len*b.size>2^24):=o?;by_cases j:len*b.size=0;simp only[j]at g1 |-;have d:((F! 0).map λx=>(#[]:J Q)[x % (#[]:J Q).size]!)=((F! 0).map (z.cells[· % z.cells.size]!)):=z?;simp only[q1s,q1d,gt_iff_lt,if_false,H?,tV,if_true,w9,d,g1,g];simp[newRow];simp only[VN,if_false,H?,tV,j,w9,v,g1,g];simp[newRow]
theorem HG{G:R->U TI}(hG: ∀t ti,G t=Z ti->xq P t ti){t:R}{ti:TI}(ht:xq P t ti)
  (hi:zr w H ι Im) {nx:W} {X:W->Prop} (jN:Bd X H nx) (hX: ∀γ,X γ->nx+1<=γ)
  {l c:AV} {L vc:Q} (hl:RA w H ι Im l L) (hc:RA w H ι Im c vc) {e:ru} (d:fg ti.td G l c nx=Z e):
  ∃u w',(Instr.makeSlice t L vc).run P w= .ok u w' /\cp X w H ι Im nx e u w' :=by
 unfold fg at d;split at d;rotate_left;cases d;rename_i el kx;split at d;rotate_left;cases d;rename_i j n b eg y E;split at d<;>cases d;rename_i hh;obtain⟨rfl,cz,mw⟩:=hh;have a: ∀{x:AV}{v:Q}{m:W},RA w H ι Im x v->uh x=Z m-> ∃k,v= .int k (m:Int):=by intro x v m hx g;unfold uh at g;split at g;(rename_i k z;split at g<;>cases g;rename_i o;cases hx with|pv _ _ h=>cases h;exact⟨k,by rw[q03 o]⟩);cases g
 obtain⟨k1,rfl⟩:=a hl y;obtain⟨k2,rfl⟩:=a hc E;have p:=hG _ _ eg;obtain⟨i,z0,q1,q2,q3,q4,q5,q6⟩:=p.info;obtain⟨z,h1,h2,h3,h4⟩:=J2 (w:=w) (Im:=Im) p;have q:=MZ (w:=w) (Im:=Im) p h2 h3 b;simp only[ql,xn,B]at mw;obtain⟨⟨r1,r2⟩,r3⟩:=mw;have s:q?.wrap (b :Int)=(b :Int):=IntWalk.i64_in _ ⟨o?,o?⟩;have hb:i.bytes*b <=2^46:=by rw[q3,W!];exact r1
 have VN: ¬(((i.bytes:Int)*(b :Int))>2^48):=by have:((i.bytes*b :W):Int)<=2^46:=o?;rw[Int.natCast_mul]at this;omega
 refine⟨.slice (Z ⟨w.heap.size,0,Y⟩) (f? b j.zero).length b, { w with heap:=w.heap.push (.cells ((F! (b *j.size)).map (z.cells[· % z.cells.size]!)) el) }, ?_,Yd hi jN (l5 hX) j.size _ _ el (0,0) b _ rfl ⟨rfl,rfl⟩ (wC _) cz z? z? q⟩;unfold Instr.makeSlice;have f: ¬((b :Int)<0):=o?;simp only[w9,qA (ht.slice kx),tV,asInt,asIntOf,H?,mo q1,s];have SG: ¬((b :Int)>(b :Int)):=o?;simp only[f,VN,SG,decide_false,K.or_self,vH,if_false,Int.toNat_natCast,run_askRoom,tV,p.size,w9];by_cases o:b *j.size=0;have r:((F! 0).map λx=>(#[]:J Q)[x % (#[]:J Q).size]!)=((F! 0).map (z.cells[· % z.cells.size]!)):=z?;simp only[o,if_true,H?,tV,r,newRow,w9,run_newObj,N'];simp only[o,if_false,w9,h1,H?,tV,newRow,run_newObj,N']
end
section
variable [xY] {P:F} {w:World} {H:qt} {ι:uT} {Im:W->Prop}
theorem yA.px{w' :World}(h:w'.heap=w.heap)(a:w'.os=w.os/\w'.output=w.output):yA w H ι Im w' H ι Im where
 comp:=λβ b h=>⟨b,h,ni b _⟩
 im:=λ_ h=>h
 sR:=λ_ h=> .inl h
 tC:=λβ x z h hu=> .inr ⟨β,x,h,hu⟩
 wV:=λ_ _ _=>by rw[h]
 size:=by rw[h];exact ke _
 io:=a
theorem zr.px{w' :World}(h:w'.heap=w.heap)(a:w'.os=w.os/\w'.output=w.output)(hi:zr w H ι Im):zr w' H ι Im where
 d5:=λβ b c=>(hi.d5 β b c).mono hi (yA.px h a) (λ_=>⟨rfl,λ_ _=>by rw[h]⟩)
 inj:=hi.inj
 im:=λb c=>by rw[h];exact hi.im b c
 Hn:=hi.Hn
 TG:=xY.go hi.TG hi.HS λb _=>by rw[h]
 HS:=hi.HS
theorem RA.px{w' :World}(h:w'.heap=w.heap)(a:w'.os=w.os/\w'.output=w.output)(hi:zr w H ι Im){x:AV}{v:Q}(b:RA w H ι Im x v):RA w' H ι Im x v:=b.mono hi (yA.px h a)
theorem cF(hi:zr w H ι Im){x:AV}{v:Q}(y:RA w H ι Im x v){d7:W}{src:V (V PV)}(h:gj x H=Z (d7,src)):
  (M.lenOf v).run P w= .ok src.length w/\
  ∀size,(d7=size\/src=[])-> ∃cs,(M.firstCells size src.length v).run P w= .ok cs w/\cs.size=src.length*size/\jI w Im size src (cs[·]?):=by
 have empty: ∀(v:Q),(∃ a c,v= .slice (Z a) 0 c)\/(∃ c,v= .slice Y 0 c)->(M.lenOf v).run P w= .ok ([]:V (V PV)).length w/\
   ∀size,∃ cs,(M.firstCells size ([]:V (V PV)).length v).run P w= .ok cs w/\cs.size=([]:V (V PV)).length*size/\jI w Im size [] (cs[·]?):=by
  intro v hv;rcases hv with ⟨a,c,rfl⟩|⟨c,rfl⟩
  ·refine⟨by simp[M.lenOf],λsize=>⟨#[], ?_,z?,by simp[jI]⟩⟩;simp[M.firstCells,loadCells,loadCellsFrom]
  exact⟨by simp[M.lenOf],λsize=>⟨#[],by simp[M.firstCells],z?,by simp[jI]⟩⟩
 unfold gj at h;split at h
 ·rename_i qx L es;cases h;cases y with
  |pv _ _ h=>cases h with
   |oZ L=>
    obtain⟨e1,e2⟩:=empty (.slice Y 0 0) (.inr ⟨_,rfl⟩);exact⟨e1,λsize _=>e2 size⟩
   |sl _ _ b off cap q Ja VJ rj hc hf h sp AN=>
    refine⟨by simp[M.lenOf],λsize hs=>?_⟩;by_cases u:src=[]
    ·subst u;exact(empty _ (.inl ⟨_,_,rfl⟩)).2 size
    obtain rfl:=AN u;rcases hs with rfl|rfl
    ·refine⟨((L? (src.length*d7)).map q).toArray, ?_,z?,rj,hf,λi e j p g d=>?_⟩
     ·simp only[M.firstCells];exact run_loadCells b off _ q hc
     have jv:=(qK g).1;have AE:=(qK d).1;have r:=rj e (zj g);have:(i+1)*d7<=src.length*d7:=mulR _ jv;rw[T?]at this;refine⟨q (i*d7+j), ?_,h i e j p g d⟩;simp only[q!,Y?];rw[K_ o?];rfl
    exact absurd rfl u
 (cases h;cases y with|QZ a=>obtain⟨e1,e2⟩:=empty (.slice (Z a) 0 0) (.inl ⟨_,_,rfl⟩);exact⟨e1,λsize _=>e2 size⟩);{rename_i β xS off n;split at h;rotate_left;cases h;rename_i qx L es m;split at h<;>cases h;rename_i kA;cases y with|row _ _ _ _ _ b ho kq hk hv hh=>rw[m]at kq;cases kq;obtain⟨h1,t⟩:=hh _ _ _ rfl kA;have f:((es.drop off).take n).length=n:=v?;cases hn:qx;rw[hn]at t m;simp only[vH,if_false]at t;obtain⟨a,rfl,ZB,oG,XR⟩:=t;obtain⟨ab,ao,II⟩:=a;simp only at ZB oG XR;subst ZB oG;refine⟨by rw[f];simp[M.lenOf],λsize hs=>?_⟩;by_cases P8:n=0;subst P8;have:(es.drop off).take 0=[]:=z?;rw[this];exact(empty _ (.inl ⟨_,_,rfl⟩)).2 size;(obtain⟨q,elem,fz,g1,g2,g3,g4,g5,g6,g7,g8⟩:=hi.row m;have E:=XR o?;subst E;have ZC:d7=size:=by rcases hs with h|h;exact h;rw[h]at f;simp at f;omega);(subst ZC;have X: ∀(i:W) e,((es.drop off).take n)[i]? =Z e->i<n/\es[off+i]? =Z e:=by intro i e o;have:=(qK o).1;have z:i<n:=o?;rw[G? z,h!]at o;exact⟨z,o⟩);(have hmul:off*d7+n*d7<=es.length*d7:=by rw[<- S?];exact mulR _ h1);have hmul2:es.length*d7<=(ι β).cap*d7:=mulR _ g5;rw[f];refine⟨((L? (n*d7)).map λj=>(q[off*d7+j]?).getD undef).toArray, ?_,z?,λe r=>?_,λi e j p o d=>?_,λi e j p o d=>?_⟩;simp only[M.firstCells];refine run_loadCells _ _ _ _ λj d=>?_;rw[nT g1];have:off*d7+j<q.size:=o?;simp[this];exact g6 e (j! (U? r));exact g7 _ e j p (X i e o).2 d;(obtain⟨z,k⟩:=X i e o;obtain⟨v,k1,k2⟩:=g8 _ e j p k d;have AE:=(qK d).1;have r:=g6 e (zj k);have:(i+1)*d7<=n*d7:=mulR _ z;rw[T?]at this;refine⟨v, ?_,k2⟩;have e1:off*d7+(i*d7+j)=(off+i)*d7+j:=by rw[S?];omega);simp only[q!,Y?];rw[K_ o?];simp only[O!,e1,k1,i!];rw[hn]at t m;have u:es=[]:=hi.d5 β _ m;subst u;simp only[if_true]at t;subst t;have:(([]:V (V PV)).drop off).take n=[]:=z?;rw[this];obtain⟨e1,e2⟩:=empty (.slice Y 0 0) (.inr ⟨_,rfl⟩);exact⟨e1,λsize _=>e2 size⟩}
 ·rename_i s;cases h;cases y with
  |pv _ _ h=>cases h with
   |str l=>
    refine⟨by simp[M.lenOf,ByteArray.size],λsize hs=>?_⟩;refine⟨(s.map λb=>Q.int .u8 b.toNat).toArray, ?_, ?_, ?_⟩
    ·simp only[M.firstCells,j_];have:(ByteArray.mk ⟨s⟩).extract 0 s.length=⟨⟨s⟩⟩:=by
      apply ByteArray.ext;simp
     rw[this];simp
    ·rcases hs with rfl|h
     ·simp
     have:s=[]:=by simpa using h
     subst this;simp
    rcases hs with rfl|h
    ·refine⟨λe r=>?_,λi e j p g d=>?_,λi e j p g d=>?_⟩
     ·simp only[B?]at r;obtain⟨b,_,rfl⟩:=r;rfl
     ·simp only[Y?,gD]at g;obtain⟨b,_,rfl⟩:=g;cases j with
      |zero=>simp at d;subst d;rfl
      |succ j=>simp at d
     simp only[Y?,gD]at g;obtain⟨b,m,rfl⟩:=g;cases j with
     |zero=>
      simp at d;subst d;exact⟨.int .u8 b.toNat,by simp[m],.int _ _⟩
     |succ j=>simp at d
    have:s=[]:=by simpa using h
    subst this;simp[jI]
 cases h
end
section
variable [xY] {P:F} {w:World} {H:qt} {ι:uT} {Im:W->Prop}
theorem GO(a:W): ∀(r c:W),c<=a+(a+768) / 4->M.growBy a r c<=a+(a+768) / 4
 |0,c,h=>h
 |r+1,c,h=>by simp only[M.growBy];split;exact h;exact GO a r _ o?
theorem nextslicecap_le{zY cap:W}(h:cap<zY):M.nextslicecap zY cap<=2*zY+192:=by unfold M.nextslicecap;split;omega;split;omega;have:=GO zY 4 cap o?;omega
theorem S0{zY bytes:W}(h:ql zY bytes=T){cap:W}(a:cap<zY):
  M.nextslicecap zY cap*bytes<=2^48/\(zY:Int)<=q?.max:=by
 unfold ql at h;simp only[xn,B]at h;obtain⟨⟨h1,h2⟩,h3⟩:=h;refine⟨?_, ?_⟩
 ·have:=nextslicecap_le a
  calc M.nextslicecap zY cap*bytes<=(2*zY+192)*bytes:=mulR _ this
   _=2*(zY*bytes)+192*bytes:=by rw[S?,W.mul_assoc]
   _<=2^48:=o?
 have:q?.max=9223372036854775807:=by decide
 rw[this];omega
theorem jI.append{sz:W}{a b:V (V PV)}{f d rest:J Q}(g:jI w Im sz a (f[·]?))(k:jI w Im sz b (d[·]?))
  (hl:f.size=a.length*sz):jI w Im sz (a++b) ((f++d++rest)[·]?):=by
 have n: ∀(i:W) e(j:W) p,a[i]? =Z e->e[j]? =Z p->i*sz+j<f.size:=by intro i e j p hi c;have l:=(qK hi).1;have AE:=(qK c).1;have m:=g.1 e (zj hi);have:(i+1)*sz<=a.length*sz:=mulR _ l;rw[T?]at this;omega
 have split: ∀(i:W) e,(a++b)[i]? =Z e->(a[i]? =Z e)\/(a.length<=i/\b[i-a.length]? =Z e):=by intro i e h;rw[T!]at h;split at h;exact .inl h;exact .inr ⟨o?,h⟩
 refine⟨λe m=>?_,λi e j p hi c=>?_,λi e j p hi c=>?_⟩;rcases t?.1 m with h|h;exact g.1 e h;exact k.1 e h;rcases split i e hi with h|⟨_,h⟩;exact g.2.1 i e j p h c;exact k.2.1 _ e j p h c;rcases split i e hi with h|⟨hle,h⟩;obtain⟨v,g1,g2⟩:=g.2.2 i e j p h c;refine⟨v, ?_,g2⟩;have:=n i e j p h c;simp only[A'];rw[N! this];exact g1;obtain⟨v,g1,g2⟩:=k.2.2 _ e j p h c;refine⟨v, ?_,g2⟩;have e1:i*sz+j=f.size+((i-a.length)*sz+j):=by rw[hl];have:i=a.length+(i-a.length):=o?;(conv=>lhs;rw[this,S?]);omega
 have l:(i-a.length)*sz+j<d.size:=by rcases G' ((i-a.length)*sz+j) d.size with h|h;exact h;have:d[(i-a.length)*sz+j]? =Y:=g_ h;simp only[this]at g1;cases g1
 show(f++d++rest)[i*sz+j]? =Z v;rw[e1,N! v?,C_ o?];simpa using g1
theorem rb.append{sz:W}{a b:V (V AV)}{f d rest:J Q}(g:rb w H ι Im sz a (f[·]?))(k:rb w H ι Im sz b (d[·]?))
  (hl:f.size=a.length*sz):rb w H ι Im sz (a++b) ((f++d++rest)[·]?):=by
 have n: ∀(i:W) e(j:W) p,a[i]? =Z e->e[j]? =Z p->i*sz+j<f.size:=by intro i e j p hi c;have l:=(qK hi).1;have AE:=(qK c).1;have m:=g.1 e (zj hi);have:(i+1)*sz<=a.length*sz:=mulR _ l;rw[T?]at this;omega
 have split: ∀(i:W) e,(a++b)[i]? =Z e->(a[i]? =Z e)\/(a.length<=i/\b[i-a.length]? =Z e):=by intro i e h;rw[T!]at h;split at h;exact .inl h;exact .inr ⟨o?,h⟩
 refine⟨λe m=>?_,λi e j p hi c=>?_,λi e j p hi c=>?_⟩;rcases t?.1 m with h|h;exact g.1 e h;exact k.1 e h;rcases split i e hi with h|⟨_,h⟩;exact g.2.1 i e j p h c;exact k.2.1 _ e j p h c;rcases split i e hi with h|⟨hle,h⟩;obtain⟨v,g1,g2⟩:=g.2.2 i e j p h c;refine⟨v, ?_,g2⟩;have:=n i e j p h c;simp only[A'];rw[N! this];exact g1;obtain⟨v,g1,g2⟩:=k.2.2 _ e j p h c;refine⟨v, ?_,g2⟩;have e1:i*sz+j=f.size+((i-a.length)*sz+j):=by rw[hl];have:i=a.length+(i-a.length):=o?;(conv=>lhs;rw[this,S?]);omega
 have l:(i-a.length)*sz+j<d.size:=by rcases G' ((i-a.length)*sz+j) d.size with h|h;exact h;have:d[(i-a.length)*sz+j]? =Y:=g_ h;simp only[this]at g1;cases g1
 show(f++d++rest)[i*sz+j]? =Z v;rw[e1,N! v?,C_ o?];simpa using g1
def yN(w:World):World:={ w with drawn:=w.drawn+1 }
theorem se{ts j e:R}{ti b q:TI}(Y7:xq P ts ti)(X:ti.td= .slice e)(p:xq P e b)(t:xq P j q)
  (KA:(∃ g,q.td= .slice g)\/q.td= .string) (tt:R) (base:U Addr) (n cap k:W) (v:Q)
  (hlen:(M.lenOf v).run P w= .ok k w) (SG:cap<n+k) (L:ql (n+k) b.bytes=T)
  (u new:J Q)
  (ho:(M.firstCells b.size n (.slice base n cap)).run P (yN w)= .ok u (yN w))
  (hn:(M.firstCells b.size k v).run P (yN w)= .ok new (yN w)):
  ∃(l:W)(rest:J Q),n+k<=l/\rest.size=(l-(n+k))*b.size/\
   (M.append_ #[ts,j] tt #[.slice base n cap,v]).run P w=
    .ok (.slice (Z ⟨w.heap.size,0,Y⟩) (n+k) l) { yN w with heap:=w.heap.push (.cells (u++new++rest) e) }:=by
 obtain⟨i,z,r,q2,E,y,x,q6⟩:=p.info;obtain⟨r1,r2⟩:=S0 L SG;have m:z.cells.size=b.size:=by have:=(KP (w:=w) (Im:=λ_=>True) x).1;have:=p.len;simp at*;omega
 let nc:W:=Question.cut (.appendCap (n+k) cap e) (w.tape w.drawn (.appendCap (n+k) cap e));have o:n+k<=nc:=by simp[nc,Question.cut]
 refine⟨nc,M.zeroCells z.cells (nc-(n+k)),o,by simp[M.zeroCells,m], ?_⟩;have hzero:(zeroValue e).run P (yN w)= .ok z (yN w):=by simp[zeroValue,mo r,y]
 have f: ¬(n+k<=cap):=o?;have a: ¬(M.nextslicecap (n+k) cap*b.bytes>2^48):=o?;have d: ¬(((n+k:W):Int)>q?.max):=o?;have c:P.underlying j=Z .string\/ ∃g,P.underlying j=Z (.slice g):=by rcases KA with ⟨g,h⟩|h;exact .inr ⟨_,t.slice h⟩;exact .inl (t.string h)
 have HT:(choose (Question.appendCap (n+k) cap e)).run P w= .ok nc (yN w):=by simp[choose,S_,Question.forced,nc,yN]
 have ZT: ∀w',(typeInfo e).run P w' = .ok i w' :=λw' =>mo r;rw[<- E]at a;unfold M.append_;rcases c with s|⟨g,s⟩;all_goals
  simp only[q!,i?,Q?,w9,qA (Y7.slice X),tV,p.size,qA s,H?,hlen,
   vH,if_false,f,ZT,d,false_and,a,HT,run_askRoom,ho,q1e,if_true,hn,hzero,newRow,run_newObj]
  rfl
theorem run_append_fits{ts f e:R}{ti g j:TI}(q:xq P ts ti)(o:ti.td= .slice e)(p:xq P e g)(m:xq P f j)
  (s:(∃ d,j.td= .slice d)\/j.td= .string) (tt:R) (base:U Addr) (n cap k:W) (v:Q)
  (hlen:(M.lenOf v).run P w= .ok k w) (i:n+k<=cap) (new:J Q) (c:(M.firstCells g.size k v).run P w= .ok new w) (w' :World)
  (r: ∀a,base=Z a->(storeCells (a.add (n*g.size)) new.toList).run P w= .ok () w') (t:base=Y->w' =w):
  (M.append_ #[ts,f] tt #[.slice base n cap,v]).run P w= .ok (.slice base (n+k) cap) w' :=by
 have b:P.underlying f=Z .string\/ ∃d,P.underlying f=Z (.slice d):=by rcases s with ⟨d,h⟩|h;exact .inr ⟨_,m.slice h⟩;exact .inl (m.string h)
 unfold M.append_;rcases b with l|⟨d,l⟩;all_goals
  simp only[q!,i?,Q?,w9,qA (q.slice o),tV,p.size,qA l,H?,hlen,
   vH,if_false,i,q1e,if_true,c]
  cases base with
  |none=>rw[t rfl];rfl
  |some a=>simp only[w9,r a rfl,tV,H?]
theorem V8{ts j e:R}{ti c i:TI}(L:xq P ts ti)(r:ti.td= .slice e)(x:xq P e c)(E:xq P j i)
  (KA:(∃ z,i.td= .slice z)\/i.td= .string) (tt:R) (hi:zr w H ι Im) {y:AV} {d:Q} (k:RA w H ι Im y d)
  {d7:W} {src:V (V PV)} (l:gj y H=Z (d7,src)) (m:d7=c.size\/src=[]) (s:src≠[]) (o:ql src.length c.bytes=T)
  (base:U Addr):
  ∃(f:W)(w' :World)(cs:J Q),src.length<=f/\(w'.heap=w.heap.push (.cells cs e)/\w'.os=w.os/\w'.output=w.output)/\cs.size=f*c.size/\jI w Im c.size src (cs[·]?)/\
   (M.append_ #[ts,j] tt #[.slice base 0 0,d]).run P w= .ok (.slice (Z ⟨w.heap.size,0,Y⟩) src.length f) w' :=by
 obtain⟨q,l2⟩:=cF (P:=P) hi k l;have cz:0<src.length:=I?.2 s;have g:(yN w).heap=w.heap:=rfl;obtain⟨new,v,u,t⟩:=(cF (P:=P) (hi.px g ⟨rfl,rfl⟩) (k.px g ⟨rfl,rfl⟩ hi) l).2 c.size m;obtain⟨n,rest,g1,g3,g4⟩:=se (w:=w) L r x E KA tt base 0 0 src.length d q o? (by simpa using o) #[] new
  (by
   cases base with
   |none=>simp[M.firstCells]
   |some a=>simp[M.firstCells,loadCells,loadCellsFrom]) v
 have X:jI (yN w) Im c.size [] (((#[]:J Q))[·]?):=by simp[jI]
 have p:=jI.append (rest:=rest) X t z?;refine⟨n, { yN w with heap:=w.heap.push (.cells (new++rest) e) },_,o?,⟨rfl,rfl,rfl⟩, ?_, ?_,by simpa using g4⟩;simp only[B_,u,g3];simp only[x!,q0f];rw[<- S?];congr 1;omega;have:=p.mono (w' :=w) (wc:=Im) (λ_ h=>h) (λb _=>by rw[g]);simpa using this
theorem take_all{α:Type}(es src:V α){n:W}(h:n=es.length):es.take n++src++es.drop (n+src.length)=es++src:=by subst h;simp[m_]
theorem XY(hi:zr w H ι Im){x:AV}{v:Q}(hx:RA w H ι Im x v){d7:W}{src:V (V AV)}(h:Xz x H=Z (d7,src)):
  (M.lenOf v).run P w= .ok src.length w/\
  ∃cs,(M.firstCells d7 src.length v).run P w= .ok cs w/\cs.size=src.length*d7/\rb w H ι Im d7 src (cs[·]?):=by unfold Xz at h;split at h;rotate_left;cases h;rename_i β xS off n;split at h;rotate_left;cases h;rename_i sz es t;split at h<;>cases h;rename_i E;cases hx with|row _ _ _ _ _ b ho r hk hv hh=>rw[t]at r;cases r;obtain⟨h1,u⟩:=hh _ _ _ rfl E;have f:((es.drop off).take n).length=n:=v?;simp only[vH,if_false]at u;obtain⟨a,rfl,y,q,z⟩:=u;obtain⟨ab,ao,II⟩:=a;simp only at y q z;subst y q;refine⟨by rw[f];simp[M.lenOf], ?_⟩;by_cases P8:n=0;subst P8;refine⟨#[], ?_,z?,by simp[rb]⟩;simp[M.firstCells,loadCells,loadCellsFrom];(obtain⟨m,elem,fz,g1,g2,g3,g4,g5,g6,g7,g8⟩:=hi.rq t;have l:=z o?;subst l;have o: ∀(i:W) e,((es.drop off).take n)[i]? =Z e->i<n/\es[off+i]? =Z e:=by intro i e d;have:=(qK d).1;have k:i<n:=o?;rw[G? k,h!]at d;exact⟨k,d⟩);(have hmul:off*d7+n*d7<=es.length*d7:=by rw[<- S?];exact mulR _ h1);have hmul2:es.length*d7<=(ι β).cap*d7:=mulR _ g5;rw[f];refine⟨((L? (n*d7)).map λj=>(m[off*d7+j]?).getD undef).toArray, ?_,z?,λe s=>?_,λi e j p d g=>?_,λi e j p d g=>?_⟩;simp only[M.firstCells];refine run_loadCells _ _ _ _ λj g=>?_;rw[nT g1];have:off*d7+j<m.size:=o?;simp[this];exact g6 e (j! (U? s));exact g7 _ e j p (o i e d).2 g;(obtain⟨k,c⟩:=o i e d;obtain⟨v,X,L⟩:=g8 _ e j p c g;have AE:=(qK g).1;have s:=g6 e (zj c);have:(i+1)*d7<=n*d7:=mulR _ k;rw[T?]at this;refine⟨v, ?_,L⟩;have e1:off*d7+(i*d7+j)=(off+i)*d7+j:=by rw[S?];omega);simp only[q!,Y?];rw[K_ o?];simp only[O!,e1,X,i!]
theorem Ny{ts f e:R}{ti a d:TI}(x:xq P ts ti)(o:ti.td= .slice e)(t:xq P e a)(v:xq P f d)
  (E:(∃ u,d.td= .slice u)\/d.td= .string) (tt:R) (hi:zr w H ι Im) {y:AV} {b:Q} (g:RA w H ι Im y b)
  {src:V (V AV)} (j:Xz y H=Z (a.size,src)) (p:src≠[]) (l:ql src.length a.bytes=T):
  ∃(c:W)(w' :World)(cs:J Q),src.length<=c/\(w'.heap=w.heap.push (.cells cs e)/\w'.os=w.os/\w'.output=w.output)/\cs.size=c*a.size/\rb w H ι Im a.size src (cs[·]?)/\
   (M.append_ #[ts,f] tt #[.slice Y 0 0,b]).run P w= .ok (.slice (Z ⟨w.heap.size,0,Y⟩) src.length c) w' :=by
 obtain⟨n,l2⟩:=XY (P:=P) hi g j;have cz:0<src.length:=I?.2 p;have h:(yN w).heap=w.heap:=rfl;have i:=hi.px h ⟨rfl,rfl⟩;obtain⟨new,s,r,q⟩:=(XY (P:=P) i (g.px h ⟨rfl,rfl⟩ hi) j).2;obtain⟨k,rest,g1,g3,g4⟩:=se (w:=w) x o t v E tt Y 0 0 src.length b n o? (by simpa using l) #[] new (by simp[M.firstCells]) s;have z:rb (yN w) H ι Im a.size [] (((#[]:J Q))[·]?):=by simp[rb]
 have m:=rb.append (rest:=rest) z q z?;refine⟨k, { yN w with heap:=w.heap.push (.cells (new++rest) e) },_,o?,⟨rfl,rfl,rfl⟩, ?_, ?_,by simpa using g4⟩;simp only[B_,r,g3];simp only[x!,q0f];rw[<- S?];congr 1;omega;have:=m.mono (w' :=w) (H' :=H) (ι' :=ι) (wc:=Im) i (yA.px (w:=yN w) (w' :=w) rfl ⟨rfl,rfl⟩);simpa using this
theorem PG{ts d e:R}{ti f a:TI}(Y7:xq P ts ti)(kx:ti.td= .slice e)(eg:xq P e f)(Y8:xq P d a)
  (KA:(∃ h,a.td= .slice h)\/a.td= .string) (tt:R) (hi:zr w H ι Im) {nx:W} {X:W->Prop} (jN:Bd X H nx)
  {x y:AV} {c b:Q} (hx:RA w H ι Im x c) (hy:RA w H ι Im y b) {r:ru} (g:rB f x y H nx=Z r) (hX: ∀γ,X γ->r.2.2<=γ):
  ∃u w',(M.append_ #[ts,d] tt #[c,b]).run P w= .ok u w' /\cp X w H ι Im nx r u w' :=by unfold rB at g;cases g
theorem Cf{ts tx e:R}{ti c Zy:TI}(Y7:xq P ts ti)(kx:ti.td= .slice e)(eg:xq P e c)(Y8:xq P tx Zy)
  (KA:(∃ e',Zy.td= .slice e')\/Zy.td= .string) (tt:R) (hi:zr w H ι Im) {nx:W} {X:W->Prop} (s:Bd X H nx)
  {x y:AV} {vx z:Q} (g:RA w H ι Im x vx) (hy:RA w H ι Im y z) {r:ru} (d:ng c x y H nx=Z r) (hX: ∀γ,X γ->r.2.2<=γ):
  ∃u w',(M.append_ #[ts,tx] tt #[vx,z]).run P w= .ok u w' /\cp X w H ι Im nx r u w' :=by
 unfold ng at d;split at d
 ·exact PG Y7 kx eg Y8 KA tt hi s g hy d hX
 rename_i d7 src dn;split at d;rotate_left
 ·cases d
 rename_i l;obtain⟨rj,cz⟩:=l;obtain⟨l1,l2⟩:=cF (P:=P) hi hy dn;obtain⟨cs,f1,f2,f3⟩:=l2 c.size rj;have o: ∀(base:U Addr),RA w H ι Im x (.slice base 0 0)->src=[]->
   ∃u w',(M.append_ #[ts,tx] tt #[.slice base 0 0,z]).run P w= .ok u w' /\cp X w H ι Im nx (x,[],nx) u w' :=by
  intro base hxv hs;subst hs;refine⟨_,w,run_append_fits Y7 kx eg Y8 KA tt base 0 0 0 z l1 (ke _) cs f1 w (λa ha=>?_) (λ_=>rfl),cp.pure hi s hxv⟩;have:cs.toList=[]:=by
   have:cs.size=0:=by simpa using f2
   simpa using this
  rw[this];rfl
 have fresh: ∀(base:U Addr),RA w H ι Im x (.slice base 0 0)->
   wd c x src nx nx (nx+1)=Z r->
   ∃u w',(M.append_ #[ts,tx] tt #[.slice base 0 0,z]).run P w= .ok u w' /\cp X w H ι Im nx r u w' :=by
  intro base hxv d;unfold wd at d;split at d
  ·cases d;exact o base hxv rfl
  split at d<;>cases d;rename_i mw;obtain⟨L,w',cs',g1,g2,g3,g4,g5⟩:=V8 Y7 kx eg Y8 KA tt hi hy dn rj z? mw base;exact⟨_,w',g5,Yd hi s (l5 hX) c.size _ cs' e (0,0) L w' g2.1 g2.2 (wC _) cz g3 g1 g4⟩
 split at d
 ·cases g with
  |pv _ _ h=>cases h with
   |oZ=>exact fresh Y (.pv _ _ (.oZ _)) d
 ·cases g with
  |QZ a=>exact fresh _ (.QZ a) d
 ·rename_i β xS off n;split at d
  ·rename_i sz es f;split at d;rotate_left
   ·cases d
   rename_i l;obtain⟨kA,ZN,hn⟩:=l;subst ZN hn;have hxx:=g;cases g with
   |row _ _ _ _ _ b ho q hk hv hh=>
   rw[f]at q;cases q;obtain⟨h1,h2⟩:=hh _ _ _ rfl kA;simp only[if_true]at h2;subst h2;have ec:es=[]:=hi.d5 β _ f;subst ec;unfold wd at d;split at d
   ·cases d;exact o Y hxx rfl
   rename_i a0 l0;split at d<;>cases d;rename_i mw;obtain⟨L,w',cs',g1,g2,g3,g4,g5⟩:=V8 Y7 kx eg Y8 KA tt hi hy dn rj z? mw Y;refine⟨_,w',g5,wh ι β ⟨w.heap.size,L,[]⟩, ?_⟩;have key:=zr.put (VN:=noO f rfl) hi (w' :=w') β (.row N c.size (a0::l0)) ⟨w.heap.size,L,[]⟩ (λx g=>by rw[f]at g;cases g;simp[jJ,qD.sh,Pl.wV])
    ⟨by rw[g2.1];simp,g2.2⟩ (λb' q _=>by rw[g2.1];simp[J_,B' q]) (λ_=> .inl (ke _)) (λhe=>by
     have hk: ∀b,Im b->w'.heap[b]? =w.heap[b]? :=λb f=>he.KB hi b f
     obtain⟨k1,k2,k3⟩:=g4.mono he.im hk
     exact⟨cs',e,(0,0),by simp[g2],wC _,by simp[g3],cz,by simpa using g1,k1,k2,k3⟩)
   refine⟨key.1,key.2, ?_,ke _,gG s (ke _) (s β _ f)⟩;have hg:(zm [(β,qD.row N c.size (a0::l0))] H).get β=Z (.row N c.size (a0::l0)):=by simp[zm,qt.zy]
   refine .row β _ 0 _ _ _ rfl hg (λ_=>⟨_,_,_,rfl⟩) (λ_ _ _ e=>by cases e;exact ke _) λ_ _ _ e _=>?_;cases e;refine⟨z?, ?_⟩;simp only[vH,if_false];exact⟨⟨w.heap.size,0,Y⟩,z?,rfl,z?,λ_=>z?⟩
  ·rename_i sz es f;split at d;rotate_left
   ·cases d
   rename_i l;obtain⟨kA,hszz,ZN,mw⟩:=l;subst ZN hszz;have SJ:r=(.row β (es.take n++src++es.drop (n+src.length)).length 0 (n+src.length),[(β,.row N c.size (es.take n++src++es.drop (n+src.length)))],nx):=by
    split at d<;>cases d
    ·rename_i hn;rw[take_all es src hn,hn];simp
    rfl
   subst SJ;clear d;cases g with
   |row _ _ _ _ _ b ho q hk hv hh=>
   rw[f]at q;cases q;obtain⟨h1,h2⟩:=hh _ _ _ rfl kA;simp only[vH,if_false]at h2;obtain⟨a,rfl,ZB,oG,XR⟩:=h2;obtain⟨ab,ao,II⟩:=a;simp only at ZB oG XR;subst ZB oG;obtain⟨vs,elem,fz,g1,g2,g3,g4,g5,g6,g7,g8⟩:=hi.row f;have hes' :(es.take n++src++es.drop (n+src.length)).length=max es.length (n+src.length):=by
    simp;omega
   by_cases fp:n+src.length<=(ι β).cap
   ·
    have hao:src≠[]->ao=0:=λkN=>by
     have:=I?.2 kN;have:=XR o?;omega
    have Ue: ∀x∈cs.toList,eH x=T:=by
     intro x g;obtain⟨m,hm⟩:=kS g;have Ub:m<src.length*c.size:=by
      have:=(qK hm).1;simp at this;omega
     have hdiv:m / c.size<src.length:=I' (by rwa[W!]);have hmod:m % c.size<c.size:=q24 _ cz;obtain⟨e0,P6⟩: ∃e0,src[m / c.size]? =Z e0:=⟨src[m / c.size],z?⟩;have SF:=f3.1 e0 (zj P6);obtain⟨p0,hp0⟩: ∃p0,e0[m % c.size]? =Z p0:=⟨e0[m % c.size]'(o?),z?⟩;obtain⟨v0,E,q2⟩:=f3.2.2 _ e0 _ p0 P6 hp0;have:m / c.size*c.size+m % c.size=m:=by rw[W!];exact q1f m c.size
     simp only[this]at E;have:x=v0:=by
      have h0:cs[m]? =Z x:=by simpa using hm
      rw[h0]at E;exact U.some.inj E
     subst this;exact q2.eH (f3.2.1 _ e0 _ p0 P6 hp0)
    have hmul:n*c.size+src.length*c.size<=vs.size:=by
     rw[g3,<- S?];exact mulR _ fp
    have Ky: ∃w',(storeCells ⟨(ι β).b,ao+n*c.size,Y⟩ cs.toList).run P w=q00 () w' /\(w'.heap.size=w.heap.size/\w'.os=w.os/\w'.output=w.output)/\(∀ b',b' ≠(ι β).b->w'.heap[b']? =w.heap[b']?)/\
      ∃lA:J Q,w'.heap[(ι β).b]? =Z (.cells lA elem fz)/\lA.size=vs.size/\ ∀k,lA[k]? =if n*c.size<=k/\k<n*c.size+cs.size then cs[k-n*c.size]? else vs[k]? :=by
     by_cases hs:src=[]
     ·have hcs0:cs.size=0:=by rw[f2,hs];simp
      have W0:cs.toList=[]:=by simpa using hcs0
      refine⟨w,by rw[W0];rfl,⟨rfl,rfl,rfl⟩,λ_ _=>rfl,vs,g1,rfl,λk=>?_⟩;rw[I o?]
     have:=hao hs;subst this;obtain⟨w',E,q2,q3,lA,q4,q5,q6⟩:=bH (P:=P) (ι β).b (n*c.size) elem fz cs.toList 0 w vs g1 g2 (by simp[f2];omega) Ue;refine⟨w',by simpa using E,q2,q3,lA,q4,q5,λk=>?_⟩;rw[q6 k];simp
    obtain⟨w',E,q2,q3,lA,q4,q5,q6⟩:=Ky;have D8:=run_append_fits (w' :=w') Y7 kx eg Y8 KA tt (Z ⟨(ι β).b,ao,Y⟩) n ((ι β).cap-0) src.length z l1 o? cs f1
     (λa ha=>by cases ha;rw[add_plain];exact E) (λh=>by cases h)
    refine⟨_,w',D8,wh ι β (ι β), ?_⟩;have key:=zr.put (VN:=noO f rfl) hi (w' :=w') β (.row N c.size (es.take n++src++es.drop (n+src.length))) (ι β)
     (λx g=>by
      rw[f]at g
      cases g
      simp only[jJ,qD.sh]
      exact⟨o?,λ_=>⟨z?,λ_=>⟨z?,Pl.WL _⟩⟩⟩)
     ⟨o?,q2.2⟩ (λb' _ kN=>q3 b' (λe=>kN _ f rfl e.symm)) (λ_=> .inr ⟨_,f,rfl,rfl⟩) (λrF=>by
      have v: ∀b,Im b->w'.heap[b]? =w.heap[b]? :=λb f=>rF.KB hi b f
      have sQ: ∀(i:W) e0,(es.take n++src++es.drop (n+src.length))[i]? =Z e0->
        (n<=i/\i<n+src.length/\src[i-n]? =Z e0)\/(¬ (n<=i/\i<n+src.length)/\es[i]? =Z e0):=by
       intro i e0 h
       by_cases hn:n+src.length<=es.length
       ·rw[ve es src n i hn]at h
        split at h
        ·rename_i l
         exact .inl ⟨l.1,l.2,h⟩
        rename_i l
        exact .inr ⟨l,h⟩
       rw[m_ o?,V.append_nil,T!]at h
       have t:(es.take n).length=n:=v?
       rw[t]at h
       split at h
       ·rename_i l
        rw[G? l]at h
        exact .inr ⟨o?,h⟩
       rename_i l
       have:=(qK h).1
       exact .inl ⟨o?,o?,h⟩
      refine⟨lA,elem,fz,by simpa using q4,by rw[q5];exact g2,by simp[q5,g3],cz,by simp only[yz];omega, ?_, ?_, ?_⟩
      ·intro e0 P6
       obtain⟨i,gS⟩:=kS P6
       rcases sQ i e0 gS with ⟨_,_,h⟩|⟨_,h⟩
       ·exact f3.1 e0 (zj h)
       exact g6 e0 (zj h)
      ·intro i e0 j p gS hj
       rcases sQ i e0 gS with ⟨_,_,h⟩|⟨_,h⟩
       ·exact f3.2.1 _ e0 j p h hj
       exact g7 _ e0 j p h hj
      intro i e0 j p gS hj
      have AE:=(qK hj).1
      rw[q6]
      rcases sQ i e0 gS with ⟨k1,k2,h⟩|⟨k1,h⟩
      ·obtain⟨v0,w1,w2⟩:=f3.2.2 _ e0 j p h hj
       have SF:=f3.1 e0 (zj h)
       have e1:i*c.size+j-n*c.size=(i-n)*c.size+j:=by
        have:i=n+(i-n):=o?
        conv=>lhs;rw[this,S?]
        omega
       have e2:n*c.size<=i*c.size:=mulR _ k1
       have e3:(i+1)*c.size<=(n+src.length)*c.size:=mulR _ k2
       rw[T?,S?]at e3
       rw[C ⟨o?,by rw[f2];omega⟩,e1]
       exact⟨v0,w1,w2.mono rF.im v⟩
      obtain⟨v0,w1,w2⟩:=g8 _ e0 j p h hj
      have SF:=g6 e0 (zj h)
      have Wo: ¬(n*c.size<=i*c.size+j/\i*c.size+j<n*c.size+cs.size):=by
       rw[f2]
       by_cases jv:i<n
       ·have:(i+1)*c.size<=n*c.size:=mulR _ jv
        rw[T?]at this
        omega
       have:(n+src.length)*c.size<=i*c.size:=mulR _ o?
       rw[S?]at this
       omega
      rw[I Wo]
      exact⟨v0,w1,w2.mono rF.im v⟩)
    refine⟨key.1,key.2, ?_,ke _,gG s (ke _) (s β _ f)⟩;have hg:(zm [(β,qD.row N c.size (es.take n++src++es.drop (n+src.length)))] H).get β=Z (.row N c.size (es.take n++src++es.drop (n+src.length))):=by simp[zm,qt.zy]
    refine .row β _ 0 _ _ _ rfl hg (λ_=>⟨_,_,_,rfl⟩) (λ_ _ _ e=>by cases e;exact ke _) λ_ _ _ e _=>?_;cases e;refine⟨o?, ?_⟩;simp only[vH,if_false];refine⟨⟨(ι β).b,ao,Y⟩,z?,rfl,z?,λl=>?_⟩;simp only[yz]at l;have:=XR l;simpa using this
   have ZN:es.drop (n+src.length)=[]:=m_ o?;have v:(yN w).heap=w.heap:=rfl;have hself:gj (.row β xS 0 n) H=Z (c.size,es.take n):=by
    simp[gj,f,kA]
   have hxx:RA w H ι Im (.row β xS 0 n) (.slice (Z ⟨(ι β).b,ao,Y⟩) n ((ι β).cap-0)):=
    .row β xS 0 n _ _ rfl f hk hv hh
   have t:(es.take n).length=n:=v?;obtain⟨Rr,k1,k2,k3⟩:=(cF (P:=P) (hi.px v ⟨rfl,rfl⟩) (hxx.px v ⟨rfl,rfl⟩ hi) hself).2 c.size (.inl rfl);obtain⟨new,m1,m2,m3⟩:=(cF (P:=P) (hi.px v ⟨rfl,rfl⟩) (hy.px v ⟨rfl,rfl⟩ hi) dn).2 c.size rj;rw[t]at k1 k2;obtain⟨L,rest,r1,r2,r3⟩:=se (w:=w) Y7 kx eg Y8 KA tt (Z ⟨(ι β).b,ao,Y⟩) n ((ι β).cap-0) src.length z l1 o? mw Rr new k1 m1;have lH:=jI.append (rest:=rest) k3 m3 (by rw[k2,t]);have hrow' :=lH.mono (w' :=w) (wc:=Im) (λ_ h=>h) (λb _=>by rw[v]);have hes2:es.take n++src++es.drop (n+src.length)=es.take n++src:=by rw[ZN];simp
   rw[hes2]at hes' |-;refine⟨_,_,r3,wh ι β ⟨w.heap.size,L,[]⟩, ?_⟩;have hlen2:(es.take n++src).length=n+src.length:=v?;have key:=zr.put (VN:=noO f rfl) hi (w' :={ yN w with heap:=w.heap.push (.cells (Rr++new++rest) e) }) β (.row N c.size (es.take n++src)) ⟨w.heap.size,L,[]⟩
    (λx g=>by
     rw[f]at g
     cases g
     simp only[jJ,qD.sh]
     exact⟨o?,λh=>o?⟩)
    ⟨z?,rfl,rfl⟩ (λb' q _=>by simp[J_,B' q]) (λ_=> .inl (ke _)) (λhe=>by
     have hk: ∀b,Im b->_:=λb f=>he.KB hi b f
     obtain⟨p1,p2,p3⟩:=hrow'.mono he.im hk
     refine⟨Rr++new++rest,e,(0,0),z?,wC _, ?_,cz,by simp only[yz];omega,p1,p2,p3⟩
     simp only[yz,B_,k2,m2,r2,<- S?]
     congr 1
     omega)
   refine⟨key.1,key.2, ?_,ke _,gG s (ke _) (s β _ f)⟩;have hg:(zm [(β,qD.row N c.size (es.take n++src))] H).get β=Z (.row N c.size (es.take n++src)):=by simp[zm,qt.zy]
   refine .row β _ 0 _ _ _ rfl hg (λ_=>⟨_,_,_,rfl⟩) (λ_ _ _ e=>by cases e;exact ke _) λ_ _ _ e _=>?_;cases e;refine⟨o?, ?_⟩;simp only[vH,if_false];exact⟨⟨w.heap.size,0,Y⟩,z?,rfl,z?,λ_=>z?⟩
  cases d
 cases d
end
section
variable [xY] {P:F} {w:World} {H:qt} {ι:uT} {Im:W->Prop}
theorem KE(a:Addr): ∀(n i:W)(b cs:J Q),(loadCellsFrom a i n b).run P w= .ok cs w->
  ∃l:V Q,l.length=n/\cs.toList=b.toList++l/\ ∀m,m<=n->(loadCellsFrom a i m b).run P w= .ok ⟨b.toList++l.take m⟩ w
 |0,i,b,cs,h=>by simp only[loadCellsFrom,H?,Result.ok.injEq,and_true]at h;subst h;refine⟨[],rfl,z?,λm d=>?_⟩;have:m=0:=o?;subst this;simp[loadCellsFrom]
 |n+1,i,b,cs,h=>by (obtain⟨v,c⟩: ∃v,(load (a.add i)).run P w= .ok v w:=by simp only[loadCellsFrom,w9]at h;rw[run_load]at h |-;split at h;exact⟨_,rfl⟩;split at h;exact⟨_,rfl⟩;cases h);simp only[loadCellsFrom,w9,c,tV]at h;obtain⟨l,g,f,e⟩:=KE a n (i+1) (b.push v) cs h;refine⟨v::l,by simp[g],by simp[f],λm d=>?_⟩;cases m with|zero=>simp[loadCellsFrom]|succ m=>have:=e m o?;simp only[loadCellsFrom,w9,c,tV,this];simp
theorem VG{size n k:Nat}{v:Value}{cs:Array Value}(h:(Builtin.firstCells size n v).run P w= .ok cs w)(hk:k<=n)(hl:cs.size=n*size):
  (Builtin.firstCells size k v).run P w= .ok ⟨cs.toList.take (k*size)⟩ w:=by have GU:k*size<=n*size:=mulR _ hk;cases v with|slice base a c=>(cases base with|none=>simp only[Builtin.firstCells,Sem.run_pure,Result.ok.injEq,and_true]at h |-;subst h;simp|some ad=>simp only[Builtin.firstCells,loadCells]at h |-;obtain⟨l,h1,h2,h3⟩:=KE ad (n*size) 0 #[] cs h;rw[h3 _ GU];simp[h2])|string s=>simp only[Builtin.firstCells,Sem.run_pure,Result.ok.injEq,and_true]at h |-;subst h;simp at hl;by_cases hk0:k=0;subst hk0;simp;(have rj:size=1\/min n s.size=0:=by rcases Nat.lt_or_ge size 2 with h|h;rcases Nat.lt_or_ge size 1 with h' |h';right;have:size=0:=o?;subst this;omega;left;omega;have:=Nat.mul_le_mul_left n h;right;omega);rcases rj with rfl|h0;apply Array.ext';simp[List.take_take,Nat.min_eq_left hk];(have:s.size=0:=o?;apply Array.ext';have hs:s.data.toList=[]:=by cases s with|mk d=>simpa[ByteArray.size]using this);simp[hs]|_=>simp[Builtin.firstCells]at h
theorem jI.take{sz k:W}{es:V (V PV)}{cs:J Q}(h:jI w Im sz es (cs[·]?)):jI w Im sz (es.take k) ((⟨cs.toList.take (k*sz)⟩:J Q)[·]?):=by refine⟨λe c=>h.1 e (U? c),λi e j p hi a=>?_,λi e j p hi a=>?_⟩;have b:=(qK hi).1;simp at b;rw[G? o?]at hi;exact h.2.1 i e j p hi a;have b:=(qK hi).1;simp at b;rw[G? o?]at hi;obtain⟨v,f,d⟩:=h.2.2 i e j p hi a;refine⟨v, ?_,d⟩;have AE:=(qK a).1;have c:=h.1 e (zj hi);have:(i+1)*sz<=k*sz:=mulR _ o?;rw[T?]at this;simp only[q!];rw[G? o?];simpa using f
theorem aCopy_ok{ts e:R}{ti c:TI}(Y7:xq P ts ti)(kx:ti.td= .slice e)(eg:xq P e c){ai:J R}(h0:ai[0]? =Z ts)(tt:R)
  (hi:zr w H ι Im) {nx:W} {X:W->Prop} (jN:Bd X H nx) {x y:AV} {vx E:Q} (t:RA w H ι Im x vx) (hy:RA w H ι Im y E) {r:ru} (l:Kh c x y H nx=Z r):
  ∃u w',(M.copy_ ai tt #[vx,E]).run P w= .ok u w' /\cp X w H ι Im nx r u w' :=by
 unfold Kh at l;split at l
 ·cases l
 rename_i d7 g dn;split at l;rotate_left
 ·cases l
 rename_i β xS off n;split at l;rotate_left
 ·cases l
 rename_i sz es o;split at l<;>cases l;rename_i z;obtain⟨kA,hszz,rj⟩:=z;subst hszz;obtain⟨l1,f,f1',f2',f3'⟩:(M.lenOf E).run P w= .ok g.length w/\ ∃cs,(M.firstCells c.size g.length E).run P w= .ok cs w/\cs.size=g.length*c.size/\jI w Im c.size g (cs[·]?):=by
  obtain⟨a,b⟩:=cF (P:=P) hi hy dn;exact⟨a,b c.size rj⟩
 generalize d :g.take n=src;have hk:src.length=min g.length n:=by rw[<- d];simp[W.min_comm]
 have f1:=VG f1' (show src.length<=g.length by omega) f2';have f3:jI w Im c.size src ((⟨f.toList.take (src.length*c.size)⟩:J Q)[·]?):=by
  have:=f3'.take (k:=src.length);have e:g.take src.length=src:=by
   rw[<- d,V.take_eq_take_iff];simp
  rwa[e]at this
 have f2:(⟨f.toList.take (src.length*c.size)⟩:J Q).size=src.length*c.size:=by
  have:src.length*c.size<=g.length*c.size:=mulR _ o?;show(f.toList.take _).length=_;rw[V.length_take];have h2:f.toList.length=g.length*c.size:=f2';rw[h2];exact W.min_eq_left this
 generalize (⟨f.toList.take (src.length*c.size)⟩:J Q)=cs at f1 f2 f3;have hxx:=t;cases t with
 |row _ _ _ _ _ b ho kq Ka hv hh=>
 rw[o]at kq;cases kq;obtain⟨h1,h2⟩:=hh _ _ _ rfl kA;simp only[vH,if_false]at h2;obtain⟨a,rfl,ZB,oG,XR⟩:=h2;obtain⟨ab,ao,II⟩:=a;simp only at ZB oG XR;subst ZB oG;obtain⟨L,elem,fz,g1,g2,g3,cz,g5,g6,g7,g8⟩:=hi.row o;have hsn:src.length<=n:=o?;have hao:src≠[]->ao=off*c.size:=λkN=>by
  have:=I?.2 kN;exact XR o?
 have Ue: ∀x∈cs.toList,eH x=T:=by
  intro x t;obtain⟨m,hm⟩:=kS t;have Ub:m<src.length*c.size:=by
   have:=(qK hm).1;simp at this;omega
  have hdiv:m / c.size<src.length:=I' (by rwa[W!]);have hmod:m % c.size<c.size:=q24 _ cz;obtain⟨e0,P6⟩: ∃e0,src[m / c.size]? =Z e0:=⟨src[m / c.size],z?⟩;have SF:=f3.1 e0 (zj P6);obtain⟨p0,hp0⟩: ∃p0,e0[m % c.size]? =Z p0:=⟨e0[m % c.size]'(o?),z?⟩;obtain⟨v0,q,q2⟩:=f3.2.2 _ e0 _ p0 P6 hp0;have:m / c.size*c.size+m % c.size=m:=by rw[W!];exact q1f m c.size
  simp only[this]at q;have:x=v0:=by
   have h0:cs[m]? =Z x:=by simpa using hm
   rw[h0]at q;exact U.some.inj q
  subst this;exact q2.eH (f3.2.1 _ e0 _ p0 P6 hp0)
 have hmul:off*c.size+src.length*c.size<=L.size:=by
  rw[g3,<- S?];exact mulR _ o?
 have Ky: ∃w',(storeCells ⟨(ι β).b,ao,Y⟩ cs.toList).run P w=q00 () w' /\(w'.heap.size=w.heap.size/\w'.os=w.os/\w'.output=w.output)/\(∀ b',b' ≠(ι β).b->w'.heap[b']? =w.heap[b']?)/\
   ∃s:J Q,w'.heap[(ι β).b]? =Z (.cells s elem fz)/\s.size=L.size/\ ∀k,s[k]? =if off*c.size<=k/\k<off*c.size+cs.size then cs[k-off*c.size]? else L[k]? :=by
  by_cases hs:src=[]
  ·have hcs0:cs.size=0:=by rw[f2,hs];simp
   have W0:cs.toList=[]:=by simpa using hcs0
   refine⟨w,by rw[W0];rfl,⟨rfl,rfl,rfl⟩,λ_ _=>rfl,L,g1,rfl,λk=>?_⟩;rw[I o?]
  have:=hao hs;subst this;obtain⟨w',q,q2,q3,s,q4,q5,q6⟩:=bH (P:=P) (ι β).b (off*c.size) elem fz cs.toList 0 w L g1 g2 (by simp[f2];omega) Ue;refine⟨w',by simpa using q,q2,q3,s,q4,q5,λk=>?_⟩;rw[q6 k];simp
 obtain⟨w',q,q2,q3,s,q4,q5,q6⟩:=Ky;have D8:(M.copy_ ai tt #[.slice (Z ⟨(ι β).b,ao,Y⟩) n ((ι β).cap-off),E]).run P w= .ok (.int .i64 (src.length:W)) w' :=by
  have hmin:W.min g.length n=src.length:=hk.symm;unfold M.copy_;simp only[q!,i?,Q?,h0,w9,qA (Y7.slice kx),tV,l1,eg.size,hmin,f1,q,H?,goInt]
 have hes' :(es.take off++src++es.drop (off+src.length)).length=es.length:=by
  simp;omega
 refine⟨_,w',D8,wh ι β (ι β), ?_⟩;have key:=zr.put (VN:=noO o rfl) hi (w' :=w') β (.row N c.size (es.take off++src++es.drop (off+src.length))) (ι β)
  (λx t=>by
   rw[o]at t
   cases t
   simp only[jJ,qD.sh]
   exact⟨o?,λ_=>⟨z?,λ_=>⟨z?,Pl.WL _⟩⟩⟩)
  ⟨o?,q2.2⟩ (λb' _ kN=>q3 b' (λe=>kN _ o rfl e.symm)) (λ_=> .inr ⟨_,o,rfl,rfl⟩) (λrF=>by
   have hw: ∀b,Im b->w'.heap[b]? =w.heap[b]? :=λb o=>rF.KB hi b o
   have sQ: ∀(i:W) e0,(es.take off++src++es.drop (off+src.length))[i]? =Z e0->
     (off<=i/\i<off+src.length/\src[i-off]? =Z e0)\/(¬ (off<=i/\i<off+src.length)/\es[i]? =Z e0):=by
    intro i e0 h
    rw[ve es src off i o?]at h
    split at h
    ·rename_i z
     exact .inl ⟨z.1,z.2,h⟩
    rename_i z
    exact .inr ⟨z,h⟩
   refine⟨s,elem,fz,by simpa using q4,by rw[q5];exact g2,by simp[q5,g3],cz,by simp only[yz];omega, ?_, ?_, ?_⟩
   ·intro e0 P6
    obtain⟨i,gS⟩:=kS P6
    rcases sQ i e0 gS with ⟨_,_,h⟩|⟨_,h⟩
    ·exact f3.1 e0 (zj h)
    exact g6 e0 (zj h)
   ·intro i e0 j p gS v
    rcases sQ i e0 gS with ⟨_,_,h⟩|⟨_,h⟩
    ·exact f3.2.1 _ e0 j p h v
    exact g7 _ e0 j p h v
   intro i e0 j p gS v
   have AE:=(qK v).1
   rw[q6]
   rcases sQ i e0 gS with ⟨k1,k2,h⟩|⟨k1,h⟩
   ·obtain⟨v0,w1,w2⟩:=f3.2.2 _ e0 j p h v
    have SF:=f3.1 e0 (zj h)
    have e1:i*c.size+j-off*c.size=(i-off)*c.size+j:=by
     have:i=off+(i-off):=o?
     conv=>lhs;rw[this,S?]
     omega
    have e2:off*c.size<=i*c.size:=mulR _ k1
    have e3:(i+1)*c.size<=(off+src.length)*c.size:=mulR _ k2
    rw[T?,S?]at e3
    rw[C ⟨o?,by rw[f2];omega⟩,e1]
    exact⟨v0,w1,w2.mono rF.im hw⟩
   obtain⟨v0,w1,w2⟩:=g8 _ e0 j p h v
   have SF:=g6 e0 (zj h)
   have Wo: ¬(off*c.size<=i*c.size+j/\i*c.size+j<off*c.size+cs.size):=by
    rw[f2]
    by_cases jv:i<off
    ·have:(i+1)*c.size<=off*c.size:=mulR _ jv
     rw[T?]at this
     omega
    have:(off+src.length)*c.size<=i*c.size:=mulR _ o?
    rw[S?]at this
    omega
   rw[I Wo]
   exact⟨v0,w1,w2.mono rF.im hw⟩)
 exact⟨key.1,key.2,.pv _ _ (.int _ _),ke _,gG jN (ke _) (jN β _ o)⟩
end
end Go.Gm
