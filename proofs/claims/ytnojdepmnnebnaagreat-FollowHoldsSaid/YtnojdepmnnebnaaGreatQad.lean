/-
  Go's structs as Lean's.
-/
import Derived.Test.YtnojdepmnnebnaaGreatQac
import Derived.Test.YtnojdepmnnebnaaGreatRows
import Derived.Shelf.SlIterI.Nil
import Derived.Shelf.SortM.Plain
import Derived.Shelf.SortM.SortNone
import Derived.Shelf.Lays
import Derived.Shelf.Strings.Builder1
import Derived.Shelf.Strings.BuilderX
open And renaming intro->g?
open Go.Gm.AV renaming cells->u!
open Go.Gm.PV renaming int->n?,sl->l?,bool->Z?,str->C?
open Go.IntKind renaming i64->q?,u8->R?
open List renaming map->w?,length_cons->h?,replicate->b?,range->E?,all_eq_true->Z!,map_set->W_,cons_append->q1h,map_drop->q1s,map_take->q1t
open Option renaming bind_eq_some_iff->R!
set_option linter.unusedSimpArgs false
set_option linter.unusedVariables false
namespace Go.Gm
open Go
abbrev qa:=List UInt8
structure Sl (α:Type) where
 nil:Bool
 l:List α
 deriving Inhabited,DecidableEq
def ay(s:qa):List PV:=[.str s]
def zL(n:Int):List PV:=[.int .i64 n]
def kE(k:IntKind)(n:Int):List PV:=[.int k n]
def BH(b:Bool):List PV:=[.bool b]
def Jg(b:UInt8):List PV:=[.int .u8 b.toNat]
def mz{α:Type}(k:Nat)(e:α->List PV)(s:Sl α):List PV:=[.sl s.nil (zV k s.l) (w? e s.l)]
def Ou{α:Type}(e:α->List PV)(s:α×α):List PV:=e s.1++e s.2
abbrev aC:Prop:= ∀x:Bool,(x&&true)=x
def qh{α:Type}(l:List α)(i:Int):Option α:=if 0<=i then l[i.toNat]? else none
def jj{α:Type}(l:List α)(lo hi:Int):Option (List α):=if(0<=lo/\0<=hi)/\(lo.toNat<=hi.toNat/\hi.toNat<=l.length)then some ((l.take hi.toNat).drop lo.toNat)else none
def bH{α:Type}(l:List α)(lo:Int):Option (List α):=if 0<=lo/\lo.toNat<=l.length then some (l.drop lo.toNat)else none
def kF{α:Type}(l:List α)(hi:Int):Option (List α):=if 0<=hi/\hi.toNat<=l.length then some (l.take hi.toNat)else none
def u8(n:Int):UInt8:=UInt8.ofNat n.toNat
def WY(n b:Nat):Bool:=qg n b
section
variable {α:Type} {l:List α} {i lo hi:Int} {x:α} {r:List α}
theorem lM(h:qh l i=some x)(k:IntKind):vM (.pv (.int k i))=some i.toNat:=by unfold qh at h;split at h;rename_i h0;simp[vM,h0];cases h
theorem q0z(k:IntKind){n:Int}(h:0<=n):vM (.pv (.int k n))=some n.toNat:=by simp[vM,h]
theorem oA(h:qh l i=some x):l[i.toNat]? =some x:=by unfold qh at h;split at h;exact h;cases h
theorem lL{β:Type}(e:α->β)(h:qh l i=some x):(w? e l)[i.toNat]? =some (e x):=by simp[oA h]
theorem Hi(h:qh l i=some x):l.isEmpty=false:=by have:=oA h;cases l<;>simp_all
theorem ZY(h:qh l i=some x)(k:Nat):zV k l=k:=by have:=oA h;cases l<;>simp_all [zV]
theorem Fu(h:qh l i=some x)(k:Nat):(zV k l=k)=True:=by simp[ZY h]
theorem Ql(h:qh l i=some x):(i.toNat<l.length)=True:=by have:=oA h;simp only[eq_iff_iff,iff_true];exact(qF this).1
theorem Dk(h:jj l lo hi=some r)(k:IntKind):vM (.pv (.int k lo))=some lo.toNat:=by unfold jj at h;split at h;rename_i h0;simp[vM,h0.1.1];cases h
theorem Di(h:jj l lo hi=some r)(k:IntKind):vM (.pv (.int k hi))=some hi.toNat:=by unfold jj at h;split at h;rename_i h0;simp[vM,h0.1.2];cases h
theorem Dj(h:jj l lo hi=some r):(lo.toNat<=hi.toNat)=True:=by unfold jj at h;split at h;rename_i h0;simp[h0.2.1];cases h
theorem MO(h:jj l lo hi=some r):(hi.toNat<=l.length)=True:=by unfold jj at h;split at h;rename_i h0;simp[h0.2.2];cases h
theorem Xq(h:jj l lo hi=some r):(l.take hi.toNat).drop lo.toNat=r:=by unfold jj at h;split at h<;>simp_all
theorem subF_lo(h:bH l lo=some r)(k:IntKind):vM (.pv (.int k lo))=some lo.toNat:=by unfold bH at h;split at h;rename_i h0;simp[vM,h0.1];cases h
theorem subF_le(h:bH l lo=some r):(lo.toNat<=l.length)=True:=by unfold bH at h;split at h;rename_i h0;simp[h0.2];cases h
theorem Gp(h:bH l lo=some r):l.drop lo.toNat=r:=by unfold bH at h;split at h<;>simp_all
theorem subT_hi(h:kF l hi=some r)(k:IntKind):vM (.pv (.int k hi))=some hi.toNat:=by unfold kF at h;split at h;rename_i h0;simp[vM,h0.1];cases h
theorem subT_len(h:kF l hi=some r):(hi.toNat<=l.length)=True:=by unfold kF at h;split at h;rename_i h0;simp[h0.2];cases h
theorem Gr(h:kF l hi=some r):l.take hi.toNat=r:=by unfold kF at h;split at h<;>simp_all
theorem ND{β:Type}(e:α->β)(h:jj l lo hi=some r):((w? e l).take hi.toNat).drop lo.toNat=w? e r:=by rw[<- q1t,<- q1s,Xq h]
theorem q0h{β:Type}(e:α->β)(h:bH l lo=some r):(w? e l).drop lo.toNat=w? e r:=by rw[<- q1s,Gp h]
theorem q0i{β:Type}(e:α->β)(h:kF l hi=some r):(w? e l).take hi.toNat=w? e r:=by rw[<- q1t,Gr h]
theorem MT(h:jj l lo hi=some r)(k:Nat):zV (zV k l) r=zV k r:=by have:=Xq h;cases r with|nil=>rfl|cons=>cases l<;>simp_all [zV]
theorem szc_subF(h:bH l lo=some r)(k:Nat):zV (zV k l) r=zV k r:=by have:=Gp h;cases r with|nil=>rfl|cons=>cases l<;>simp_all [zV]
theorem szc_subT(h:kF l hi=some r)(k:Nat):zV (zV k l) r=zV k r:=by have:=Gr h;cases r with|nil=>rfl|cons=>cases l<;>simp_all [zV]
theorem Dm{β:Type}(k:Nat)(e:α->β)(l:List α):zV k (w? e l)=zV k l:=by cases l<;>rfl
theorem szc_szc(k:Nat)(l:List α):zV (zV k l) l=zV k l:=by cases l<;>rfl
theorem Dn(k:Nat):zV k ([]:List α)=0:=rfl
theorem MR(k:Nat)(x:α)(l:List α):zV k (x::l)=k:=rfl
theorem MS(k:Nat)(l:List α)(x:α)(r:List α):zV k (l++x::r)=k:=by cases l<;>rfl
theorem Dp(k:Nat)(l:List α)(i:Nat)(x:α):zV k (l.set i x)=zV k l:=by cases l<;>cases i<;>rfl
theorem SG{β:Type}(e:α->β)(l:List α):(w? e l).isEmpty=l.isEmpty:=by cases l<;>rfl
theorem N1(l:List α)(x:α)(r:List α):(l++x::r).isEmpty=false:=by cases l<;>rfl
theorem SI(l:List α)(i:Nat)(x:α):(l.set i x).isEmpty=l.isEmpty:=by cases l<;>cases i<;>rfl
theorem N0(x:α)(l:List α):(x::l).isEmpty=false:=rfl
theorem SH:([]:List α).isEmpty=true:=rfl
theorem szc_or{β:Type}(k:Nat)(e:α->β)(l:List α):(zV k l=k\/w? e l=[])=True:=by cases l<;>simp[zV]
theorem map_set{β:Type}(e:α->β)(l:List α)(i:Nat)(x:α):(w? e l).set i (e x)=w? e (l.set i x):=by simp[W_]
theorem q0g(s:qa):w? (fun b=>[n? .u8 (b.toNat:Int)]) s=w? Jg s:=rfl
theorem lz: ∀s:qa,pr (w? Jg s)=some s
 |[]=>rfl
 |b::s=>by simp[Jg,pr,lz s]
theorem u8_nat(b:UInt8):u8 (b.toNat:Int)=b:=by simp[u8]
theorem Dr(n:Int):((u8 (R?.wrap n)).toNat:Int)=R?.wrap n:=by
 have h:0<=R?.wrap n/\R?.wrap n<256:=by simp only[IntKind.wrap,IntKind.bits,IntKind.signed];constructor;simp;omega;simp;omega
 simp only[u8,UInt8.toNat_ofNat'];omega
theorem range1:E? 1=[0]:=rfl
theorem range2:E? 2=[0,1]:=rfl
theorem range3:E? 3=[0,1,2]:=rfl
theorem range4:E? 4=[0,1,2,3]:=rfl
theorem range5:E? 5=[0,1,2,3,4]:=rfl
theorem range6:E? 6=[0,1,2,3,4,5]:=rfl
def eH(te:TI)(β L n:Nat)(src:List (List PV))(nx:Nat):Option qE->Option mC
 |some (.row true _ es)=>if L=es.length/\n=0 then jX te (.row β L 0 n) src β nx nx else none
 |some (.row false sz es)=>
  if L=es.length/\sz=te.size/\qg (n+src.length) te.bytes=true then
   if n=es.length then some (.row β (es++src).length 0 (es++src).length,[(β,.row false te.size (es++src))],nx)
   else some (.row β (es.take n++src++es.drop (n+src.length)).length 0 (n+src.length),[(β,.row false te.size (es.take n++src++es.drop (n+src.length)))],nx)
  else none
 |_=>none
theorem rowApp_F(te:TI)(β L n nx sz:Nat)(es src:List (List PV)):eH te β L n src nx (some (.row false sz es))=
  if L=es.length/\sz=te.size/\qg (n+src.length) te.bytes=true then
   if n=es.length then some (.row β (es++src).length 0 (es++src).length,[(β,.row false te.size (es++src))],nx)
   else some (.row β (es.take n++src++es.drop (n+src.length)).length 0 (n+src.length),[(β,.row false te.size (es.take n++src++es.drop (n+src.length)))],nx)
  else none:=rfl
theorem rowApp_T(te:TI)(β L n nx sz:Nat)(es src:List (List PV)):eH te β L n src nx (some (.row true sz es))=if L=es.length/\n=0 then jX te (.row β L 0 n) src β nx nx else none:=rfl
def Kq(te:TI)(β L n:Nat)(H:qr)(nx:Nat)(d:Option mC):Option (Nat×List (List PV))->Option mC
 |none=>d
 |some (rD,src)=>if(rD=te.size\/src=[])/\0<te.size then eH te β L n src nx (H.get β)else none
theorem Bj(te:TI)(β L n:Nat)(x:AV)(H:qr)(nx:Nat):uT te (.row β L 0 n) x H nx=Kq te β L n H nx (mH te (.row β L 0 n) x H nx) (yI x H):=by unfold uT Kq;cases yI x H with|none=>rfl|some p=>obtain⟨rD,src⟩:=p;simp only;split;(unfold eH;cases H.get β with|none=>rfl|some b=>cases b with|row qu sz es=>cases qu<;>simp|_=>rfl);rfl
theorem Bi(te:TI)(sz:Nat)(es:List (List PV))(x:AV)(H:qr)(nx:Nat):uT te (.pv (.sl true sz es)) x H nx=
  match yI x H with
  |none=>mH te (.pv (.sl true sz es)) x H nx
  |some (rD,src)=>if(rD=te.size\/src=[])/\0<te.size then jX te (.pv (.sl true sz es)) src nx nx (nx+1)else none:=rfl
theorem Bk(te:TI)(x:AV)(H:qr)(nx:Nat):uT te .o5 x H nx=
  match yI x H with
  |none=>mH te .o5 x H nx
  |some (rD,src)=>if(rD=te.size\/src=[])/\0<te.size then jX te .o5 src nx nx (nx+1)else none:=rfl
theorem Mu(te:TI)(β k nx:Nat)(e:α->List PV)(l:List α)(c:List PV)(src:List (List PV))(hk:k=te.size)(hr:qg (l.length+(c::src).length) te.bytes=true):
  eH te β l.length l.length (c::src) nx (some (.row l.isEmpty (zV k l) (w? e l)))=
   some (.row β (w? e l++c::src).length 0 (w? e l++c::src).length,[(β,.row false k (w? e l++c::src))],nx):=by subst hk;cases l with|nil=>(have hr' :qg (src.length+1) te.bytes=true:=by simpa using hr);simp[eH,jX,hr']|cons a l=>(have hr' :qg (l.length+1+(src.length+1)) te.bytes=true:=by simpa using hr);simp[eH,zV,hr']
theorem L6{γ:Type}(te:TI)(s:AV)(e' :γ->List PV)(xs:List γ)(b nx fm:Nat)(hs:xs.isEmpty=false)(hr:qg xs.length te.bytes=true):
  jX te s (w? e' xs) b nx fm=some (.row b xs.length 0 xs.length,[(b,.row false te.size (w? e' xs))],fm):=by cases xs with|nil=>simp at hs|cons c r=>(have hr' :qg (r.length+1) te.bytes=true:=by simpa using hr);simp[jX,hr']
theorem app_ne{γ:Type}{l s:List γ}(h:(l.isEmpty&&s.isEmpty)=false):(l++s).isEmpty=false:=by cases l<;>cases s<;>simp_all
theorem app_szc{γ:Type}{l s:List γ}(h:(l.isEmpty&&s.isEmpty)=false)(k:Nat):zV k (l++s)=k:=by cases l<;>cases s<;>simp_all [zV]
end
structure pG where
 es:List (Int×Int×Nat)
 zR:Nat
 deriving Inhabited
def entE(e:Int×Int×Nat):PV×PV×Nat:=(.int .i64 e.1,.int .i64 e.2.1,e.2.2)
def bJ(k:Int):List (Int×Int×Nat)->Nat->Option (Nat×Int×Nat)
 |[],_=>none
 |(x,v,b)::r,i=>if k==x then some (i,v,b)else bJ k r (i+1)
def J0(m:pG)(k:Int):Bool:=(bJ k m.es 0).isSome
def K3(m:pG)(k:Int):Int:=match bJ k m.es 0 with|some (_,v,_)=>v|none=>0
def VY(m:pG)(k v:Int):pG:=match bJ k m.es 0 with|some (i,_,b)=>⟨m.es.set i (k,v,b),m.zR⟩|none=>⟨m.es++[(k,v,m.zR)],m.zR+1⟩
def lookB(te:TI)(k:PV)(ok:Bool):Option qE->Option AV
 |some (.map es _)=>match findKey k es 0 with
  |some (some (_,v,_))=>some (if ok then .xV [.pv v,.pv (.bool true)]else .pv v)
  |some none=>some (if ok then .xV [.pv (WV te),.pv (.bool false)]else .pv (WV te))
  |none=>none
 |_=>none
def updB(β:Nat)(k v:PV):Option qE->Option (List (Nat×qE))
 |some (.map es zR)=>match findKey k es 0 with
  |some (some (i,_,born))=>some [(β,.map (es.set i (k,v,born)) zR)]
  |some none=>some [(β,.map (es++[(k,v,zR)]) (zR+1))]
  |none=>none
 |_=>none
def delB(β:Nat)(k:PV):Option qE->Option (List (Nat×qE))
 |some (.map es zR)=>match findKey k es 0 with
  |some (some (i,_,_))=>some [(β,.map (es.eraseIdx i) zR)]
  |some none=>some [(β,.map es zR)]
  |none=>none
 |_=>none
theorem DM(tk te:TI)(β:Nat)(k:PV)(ok:Bool)(H:qr):aJ tk te (.map β) (.pv k) ok H=if jN tk.td k=true then lookB te k ok (H.get β)else none:=by unfold aJ KH;simp only;split;(cases H.get β with|none=>rfl|some b=>cases b<;>rfl);rfl
theorem DP(tk:TI)(β:Nat)(k v:PV)(H:qr):rJ tk (.map β) (.pv k) v H=if jN tk.td k=true then updB β k v (H.get β)else none:=by unfold rJ;simp only;split;(cases H.get β with|none=>rfl|some b=>cases b<;>rfl);rfl
theorem Og(tk te:TI)(β:Nat)(k:PV)(H:qr):lq tk te (.map β) (.pv k) H=none:=rfl
theorem VF(β:Nat)(kd:IntKind)(born:Int)(v:PV)(H:qr):bI (.map β) (.pv (.int kd born)) v H=none:=rfl
theorem DJ(tk:TI)(β:Nat)(k:PV)(H:qr):cj tk (.map β) (.pv k) H=if jN tk.td k=true then delB β k (H.get β)else none:=by unfold cj;simp only;split;(cases H.get β with|none=>rfl|some b=>cases b<;>rfl);rfl
section
variable (b:Bool) (β:Nat) (m:pG) (k:Int)
end
theorem X3(k:Int): ∀(l:List (Int×Int×Nat))(e:Int×Int×Nat)(i:Nat),bJ k (l++[e]) i=match bJ k l i with|some x=>some x|none=>if k==e.1 then some (i+l.length,e.2.1,e.2.2)else none
 |[],e,i=>by simp[bJ]
 |(x,v,b)::r,e,i=>by simp only[q1h,bJ];split;rfl;rw[X3 k r e (i+1)];simp only[h?];have:i+1+r.length=i+(r.length+1):=o?;rw[this]
theorem XY(k k' :Int)(v:Int): ∀(l:List (Int×Int×Nat))(i j:Nat)(w:Int)(b:Nat),bJ k l i=some (i+j,w,b)->
  bJ k' (l.set j (k,v,b)) i=if k' ==k then some (i+j,v,b)else bJ k' l i
 |[],i,j,w,b,h=>by simp[bJ]at h
 |(x,u,c)::r,i,j,w,b,h=>by simp only[bJ]at h;split at h;rename_i hk;simp only[ki,Prod.mk.injEq]at h;obtain⟨h1,rfl,rfl⟩:=h;have:j=0:=o?;subst this;simp only[beq_iff_eq]at hk;subst hk;simp only[List.set_cons_zero,bJ,Nat.add_zero];by_cases e:k' =k<;>simp[e];(rename_i hk;have hge: ∀(l:List (Int×Int×Nat))(n m:Nat)(w:Int)(b:Nat),bJ k l n=some (m,w,b)->n<=m:=by intro l;induction l with|nil=>intro n m w b h;simp[bJ]at h|cons y r ih=>intro n m w b h;simp only[bJ]at h;split at h;cases h;exact jx _;have:=ih (n+1) m w b h;omega);(have:=hge r (i+1) (i+j) w b h;obtain⟨j',rfl⟩: ∃j',j=j' +1:=⟨j-1,o?⟩;have h' :bJ k r (i+1)=some (i+1+j',w,b):=by rw[h];congr 2;omega);have ih:=XY k k' v r (i+1) j' w b h';simp only[List.set_cons_succ,bJ,ih];by_cases e1:k' =x;(subst e1;have:(k==k')=false:=by simpa using hk);(have h2:(k' ==k)=false:=by simp at this |-; exact fun h=>this h.symm);simp[h2];(have:(k' ==x)=false:=by simpa using e1);simp only[this,ko,if_false];have:i+1+j' =i+(j' +1):=o?;rw[this]
theorem YO(m:pG)(k v k' :Int):bJ k' (VY m k v).es 0=if k' ==k then some (((bJ k (VY m k v).es 0).getD (0,0,0)).1,v,((bJ k (VY m k v).es 0).getD (0,0,0)).2.2)else bJ k' m.es 0:=by unfold VY;cases h:bJ k m.es 0 with|none=>simp only[X3,h];by_cases e:k' =k;subst e;simp[h];(have:(k' ==k)=false:=by simpa using e);simp only[this,ko,if_false];cases bJ k' m.es 0<;>rfl|some x=>(obtain⟨i,w,b⟩:=x;have h' :bJ k m.es 0=some (0+i,w,b):=by simpa using h);simp only[XY k k' v m.es 0 i w b h',XY k k v m.es 0 i w b h'];by_cases e:k' =k<;>simp[e]
theorem NK(m:pG)(k v k' :Int):K3 (VY m k v) k' =if k' =k then v else K3 m k' :=by unfold K3;rw[YO];by_cases e:k' =k<;>simp[e]
theorem NL(m:pG)(k v k' :Int):J0 (VY m k v) k' =if k' =k then true else J0 m k' :=by unfold J0;rw[YO];by_cases e:k' =k<;>simp[e]
theorem q0s(k:Int):J0 ⟨[],0⟩ k=false:=rfl
theorem xd{α:Type}{l:List α}{n:Nat}(h:n<l.length):qh l (n:Int)=some l[n]:=by simp[qh,h]
theorem mcons{α β:Type}(f:α->β)(a:α)(l:List α):w? f (a::l)=f a::w? f l:=rfl
theorem mnil{α β:Type}(f:α->β):w? f ([]:List α)=[]:=rfl
theorem lnil{α:Type}:([]:List α).length=0:=rfl
theorem lcons{α:Type}(a:α)(l:List α):(a::l).length=l.length+1:=rfl
theorem lset{α:Type}(l:List α)(i:Nat)(x:α):(l.set i x).length=l.length:=List.length_set
def encx:=PLift.up (g? @mcons (g? @mnil (g? @lnil (g? @lcons (g? @Dn (g? @MR (g? @MS (g? @Dp (g? @SH (g? @N0 (g? @N1 (g? @SI (g? @lset (g? @u8_nat @Dr))))))))))))))
theorem lW{α:Type}{P:Program}{t:TypeId}{e:α->List PV}{ok:α->Prop}{n:Nat}(h:jW P t e ok n):jW P t e (fun _=>True) n:=h.map (fun x=>x) (fun _ _=>⟨trivial,rfl⟩)
def Xe{α β:Type}(e1:α->List PV)(e2:β->List PV)(x:α×β):List PV:=e1 x.1++e2 x.2
def bE{α:Type}(_:α):Prop:=True
def HC(_:Unit):List PV:=[]
theorem eS{α β:Type}{P:Program}{f:Field}{fs:List Field}{e1:α->List PV}{ok1:α->Prop}{e2:β->List PV}{n off c:Nat}(ho:f.offset=off)(hc:P.cellsOf f.type=c)
  (h1:jW P f.type e1 ok1 n) (h2:rF P fs e2 bE n (off+c)):rF P (f::fs) (Xe e1 e2) bE n off:=by intro H enc w base spare held fuel cs a b d;obtain⟨x,m,_,h⟩:=rF.cons ho hc h1 h2 H enc w base spare held fuel cs a b d;exact⟨x,m,trivial,h⟩
theorem fNil{P:Program}(n off:Nat):rF P [] HC bE n off:=by intro H enc w base spare held fuel cs a b d;obtain⟨x,m,_,h⟩:=rF.nil (P:=P) n off H enc w base spare held fuel cs a b d;exact⟨x,m,trivial,h⟩
theorem rdSl{α:Type}{P:Program}{t el:TypeId}{sz:Nat}{e:α->List PV}{ok:α->Prop}{n:Nat}(ht:P.underlying t=some (.slice el))(hc:P.cellsOf t=1)(mr:P.cellsOf el=sz)(pZ:0<sz)
  (h:jW P el e ok n):jW P t (mz sz e) (fun _=>True) n:=
 ((jW.slice ht hc mr pZ h).map (fun x=>(⟨x.1&&x.2.isEmpty,x.2⟩:Sl α)) (fun x _=>⟨trivial,by simp[mz,slP,SG,Dm]⟩)).mono (Nat.le_succ n)
def eV(n:Int):Prop:= -9223372036854775808<=n/\n<=9223372036854775807
def m9(s:qa):Prop:=s.length<=maxLen
def nH{α:Type}(ok:α->Prop)(s:Sl α):Prop:=(s.l.length<=maxLen/\(s.nil=true->s.l=[]))/\ ∀a∈s.l,ok a
theorem drop_cons{α:Type}{xs:List α}{i:Nat}{x:α}{r:List α}(h:xs.drop i=x::r):xs[i]? =some x/\xs.drop (i+1)=r/\i<xs.length:=by
 have h1:xs[i]? =some x:=by have:=congrArg (fun l=>l[0]?) h;simpa using this
 have h2:xs.drop (i+1)=r:=by have:=congrArg (fun l=>l.drop 1) h;simpa[List.drop_drop]using this
 exact⟨h1,h2,(qF h1).1⟩
theorem vI{α:Type}{xs:List α}{i:Nat}(h:xs.drop i=[]):xs.length<=i:=by simpa using h
theorem qH{n:Int}(h1: -9223372036854775808<=n)(h2:n<=9223372036854775807):q?.wrap n=n:=IntWalk.i64_in n ⟨h1,h2⟩
theorem pE{n:Nat}(h:n<9223372036854775807):q?.wrap ((n:Int)+1)=((n+1:Nat):Int):=qH o? o?
theorem T7(b:Bool):u! (.pv (.bool b))=[(.pv (.bool b))]:=rfl
theorem DZ(k:IntKind)(n:Int):u! (.pv (.int k n))=[(.pv (.int k n))]:=rfl
theorem F0(l:List UInt8):u! (.pv (.str l))=[(.pv (.str l))]:=rfl
theorem OI(a:Bool)(b:Nat)(c:List (List PV)):u! (.pv (.sl a b c))=[(.pv (.sl a b c))]:=rfl
theorem UZ:u! (.pv (.yd))=[(.pv (.yd))]:=rfl
theorem BO:u! (.pv (.fh))=[(.pv (.fh))]:=rfl
theorem UY:u! (.pv (.bT))=[(.pv (.bT))]:=rfl
theorem BP:u! (.pv (.ia))=[(.pv (.ia))]:=rfl
theorem OG(f:FuncId):u! (.pv (.fn f))=[(.pv (.fn f))]:=rfl
theorem OH(c:List PV):u! (.pv (.rp c))=[(.pv (.rp c))]:=rfl
theorem T8(c:List PV):u! (.pv (.agg c))=c.map .pv:=rfl
theorem T3(x y:Nat):u! (.ptr x y)=[(.ptr x y)]:=rfl
theorem BK(x y z u:Nat):u! (.uI x y z u)=[(.uI x y z u)]:=rfl
theorem BL(c:List PV)(x:Nat):u! (.tU c x)=[(.tU c x)]:=rfl
theorem T4(x y z u:Nat):u! (.row x y z u)=[(.row x y z u)]:=rfl
theorem T6:u! (.o5)=[(.o5)]:=rfl
theorem T2(x:Nat):u! (.map x)=[(.map x)]:=rfl
theorem T1(f:FuncId)(a b:List AV):u! (.Z5 f a b)=[(.Z5 f a b)]:=rfl
theorem T5(l:List AV):u! (.xV l)=[(.xV l)]:=rfl
theorem DY(c:List AV):u! (.agg c)=c:=rfl
abbrev qi(n:Int):AV:= .pv (.int .i64 n)
abbrev zu(b:Bool):AV:= .pv (.bool b)
abbrev qM(s:qa):AV:= .pv (.str s)
abbrev Qa(l:List PV):AV:= .pv (.agg l)
abbrev v_l{α:Type}(k:Nat)(e:α->List PV)(s:Sl α):AV:= .pv (.sl s.nil (zV k s.l) (w? e s.l))
abbrev qt{α:Type}(β:Nat)(l:List α):AV:= .row β l.length 0 l.length
abbrev b_x(l:List PV):qE:= .box (w? .pv l)
abbrev b_r{α:Type}(k:Nat)(e:α->List PV)(l:List α):qE:= .row l.isEmpty (zV k l) (w? e l)
abbrev b_m(m:pG):qE:= .map (w? entE m.es) m.zR
theorem v_i_eq(n:Int):qi n= .pv (.int .i64 n):=rfl
theorem v_b_eq(b:Bool):zu b= .pv (.bool b):=rfl
theorem v_s_eq(s:qa):qM s= .pv (.str s):=rfl
theorem v_g_eq(l:List PV):Qa l= .pv (.agg l):=rfl
theorem v_l_eq{α:Type}(k:Nat)(e:α->List PV)(s:Sl α):v_l k e s= .pv (.sl s.nil (zV k s.l) (w? e s.l)):=rfl
theorem v_r_eq{α:Type}(β:Nat)(l:List α):qt β l= .row β l.length 0 l.length:=rfl
theorem b_x_eq(l:List PV):b_x l= .box (w? .pv l):=rfl
theorem b_r_eq{α:Type}(k:Nat)(e:α->List PV)(l:List α):b_r k e l= .row l.isEmpty (zV k l) (w? e l):=rfl
theorem b_m_eq(m:pG):b_m m= .map (w? entE m.es) m.zR:=rfl
theorem OD(b:UInt8):Jg b=[.int .u8 b.toNat]:=rfl
theorem intE_eq(n:Int):zL n=[.int .i64 n]:=rfl
theorem strE_eq(s:qa):ay s=[.str s]:=rfl
theorem OA(b:Bool):BH b=[.bool b]:=rfl
theorem kE_eq(k:IntKind)(n:Int):kE k n=[.int k n]:=rfl
theorem slE_eq{α:Type}(k:Nat)(e:α->List PV)(s:Sl α):mz k e s=[.sl s.nil (zV k s.l) (w? e s.l)]:=rfl
theorem Ov{α:Type}(e:α->List PV)(s:α×α):Ou e s=e s.1++e s.2:=rfl
def wordx:=PLift.up (g? @v_i_eq (g? @v_b_eq (g? @v_s_eq (g? @v_g_eq (g? @v_l_eq (g? @v_r_eq (g? @b_x_eq (g? @b_r_eq (g? @b_m_eq (g? @OD (g? @intE_eq (g? @strE_eq (g? @OA (g? @kE_eq (g? @slE_eq @Ov)))))))))))))))
section
variable {α β:Type} {r:β} {P:Prop}
theorem bs{o:Option α}{k:α->Option β}(f: ∀x,o=some x->k x=some r->P)(h:o>>=k=some r):P:=by obtain⟨x,h1,h2⟩:=R!.1 h;exact f x h1 h2
theorem it{b:Bool}{p q:Option β}(f:b=true->p=some r->P)(g:b=false->q=some r->P)(h:(if b=true then p else q)=some r):P:=by cases b;exact g rfl h;exact f rfl h
theorem gd{Q:Prop}[Decidable Q]{p:Option β}(f:Q->p=some r->P)(h:(if Q then p else none)=some r):P:=by split at h;exact f ‹_› h;cases h
variable {l:List α} {i lo hi:Int}
theorem bw{k:α->Option β}(e:α->List PV)(f: ∀x,qh l i=some x->(∀ kd,vM (.pv (.int kd i))=some i.toNat)->(w? e l)[i.toNat]? =some (e x)->(i.toNat<l.length)=True->k x=some r->P)(h:qh l i>>=k=some r):P:=
 bs (fun x hx=>f x hx (lM hx) (lL e hx) (Ql hx)) h
theorem bW{k:α->Option β}(e:α->List PV)(z:Nat)(f: ∀x,qh l i=some x->(∀ kd,vM (.pv (.int kd i))=some i.toNat)->(w? e l)[i.toNat]? =some (e x)->(i.toNat<l.length)=True->l.isEmpty=false->zV z l=z->k x=some r->P)(h:qh l i>>=k=some r):P:=
 bs (fun x hx=>f x hx (lM hx) (lL e hx) (Ql hx) (Hi hx) (ZY hx z)) h
variable {k:List α->Option β}
theorem b2(e:α->List PV)(f: ∀x,jj l lo hi=some x->(∀ kd,vM (.pv (.int kd lo))=some lo.toNat)->(∀ kd,vM (.pv (.int kd hi))=some hi.toNat)->(lo.toNat<=hi.toNat)=True->(hi.toNat<=l.length)=True->((w? e l).take hi.toNat).drop lo.toNat=w? e x->(∀ z,zV (zV z l) x=zV z x)->k x=some r->P)(h:jj l lo hi>>=k=some r):P:=
 bs (fun x hx=>f x hx (Dk hx) (Di hx) (Dj hx) (MO hx) (ND e hx) (MT hx)) h
variable {s:List α}
theorem rG(k:Nat)(e:α->List PV)(l:List α)(te:TI)(β nx:Nat)(c:List PV)(hk:k=te.size)(hr:qg (l.length+1) te.bytes=true):
  eH te β l.length l.length [c] nx (some (.row l.isEmpty (zV k l) (w? e l)))=some (.row β (w? e l++[c]).length 0 (w? e l++[c]).length,[(β,.row false k (w? e l++[c]))],nx):=Mu te β k nx e l c [] hk hr
theorem rN(e:α->List PV)(hs:s.isEmpty=false)(te:TI)(v:AV)(b nx fm:Nat)(hr:qg s.length te.bytes=true):jX te v (w? e s) b nx fm=some (.row b s.length 0 s.length,[(b,.row false te.size (w? e s))],fm):=L6 te v e s b nx fm hs hr
end
section
variable (m:pG) (k v:Int) (b:Bool) (β:Nat)
end
theorem fF{G:GP}{f:FuncId}{S:pj}{nt:Nat}{ob:Option Code}{ra:Array ResultVar}(XP:G.fn f=some ⟨nt,ra.toList,ob.get!⟩){c:Code}{rs:List ResultVar}{H:qr}{args:List AV}{r:Option (AV×qr)}
  (hs:S.call f=none:=by rfl) (hc:ob=some c:=by rfl) (hr:ra=⟨rs⟩:=by rfl) (hk:uL 0 H=true:=by rfl)
  (h:Yx G f H.length rs (cont G (omega G S) f [.code c] (.normal,⟨rK 0 args,H,H.length⟩))=r:=by
   simp(maxSteps:=2000000) (disch:=first|assumption|rfl|exact O3.mk (by kernel_rfl)) only[go_sem,↓reduceIte,Nat.reduceLeDiff,Nat.reduceEqDiff,Nat.reduceLT,Nat.reduceAdd,Nat.reduceSub,Nat.reduceMul,reduceCtorEq,Nat.reducePow, *]):
  (omega G S).call f args H=r:=Co hs XP hc hr hk h
theorem fL{G:GP}{f:FuncId}{S:pj}{fi:FI}(XP:G.fn f=some fi){id:Nat}{c:Code}{s:St}{r:Option (Ex×St)}
  (hc:zH fi.body id=some c:=by rfl)
  (h:ak G (omega G S) f id s.nx (cont G (omega G S) f [.code c] (.normal,s))=r:=by
   simp(maxSteps:=2000000) (disch:=first|assumption|rfl|exact O3.mk (by kernel_rfl)) only[go_sem,↓reduceIte,Nat.reduceLeDiff,Nat.reduceEqDiff,Nat.reduceLT,Nat.reduceAdd,Nat.reduceSub,Nat.reduceMul,reduceCtorEq,Nat.reducePow, *]):
  (omega G S).loop f id s=r:=Cp XP hc h
def G6(H:qr):List Nat->List Nat
 |[]=>[]
 |β::r=>(so H β).refs++G6 H r
theorem Us(H:qr): ∀d:List Nat,(d.flatMap fun β=>(so H β).refs)=G6 H d
 |[]=>rfl
 |β::r=>by rw[List.flatMap_cons,Us H r];rfl
theorem Ed(H:qr)(d roots:List Nat):sj H d roots=match roots,d with
 |[],[]=>some ([],[])
 |roots,d=>let L:=nU H 400 (roots++G6 H d) d
  if Gq roots L&&pW H L L then some (L,pick H (pos L) 0 L)else none:=by cases roots<;>cases d<;>first|rfl|simp only[sj,Us]
theorem aNil_p1(H:qr):di .ptr (.pv .yd) H=some true:=rfl
theorem aNil_p2(H:qr)(β o:Nat):di .ptr (.ptr β o) H=some false:=rfl
theorem aNil_p3(H:qr)(c:List PV)(o:Nat):di .ptr (.tU c o) H=some false:=rfl
theorem aNil_p4(H:qr)(β xf i o:Nat):di .ptr (.uI β xf i o) H=some false:=rfl
theorem aNil_p5(H:qr)(c:List PV):di .ptr (.pv (.rp c)) H=some false:=rfl
theorem aNil_s1(H:qr)(e:TypeId)(b:Bool)(sz:Nat)(es:List (List PV)):di (.slice e) (.pv (.sl b sz es)) H=some b:=rfl
theorem aNil_s2(H:qr)(e:TypeId):di (.slice e) .o5 H=some false:=rfl
theorem aNil_s3(H:qr)(e:TypeId)(β xf off n:Nat):di (.slice e) (.row β xf off n) H=match H.get β with|some (.row b _ es)=>if xf=es.length then some b else none|_=>none:=rfl
theorem aNil_m1(H:qr)(k e:TypeId):di (.map k e) (.pv .bT) H=some true:=rfl
theorem aNil_m2(H:qr)(k e:TypeId)(β:Nat):di (.map k e) (.map β) H=some false:=rfl
theorem aNil_f1(H:qr):di .func (.pv .fh) H=some true:=rfl
theorem aNil_f2(H:qr)(f:FuncId):di .func (.pv (.fn f)) H=some false:=rfl
theorem aNil_f3(H:qr)(f:FuncId)(a b:List AV):di .func (.Z5 f a b) H=some false:=rfl
def oE{α:Type}(k:Nat)(e:α->List PV)(l:List (Sl α)):List PV:=l.map fun x=> .sl x.nil (zV k x.l) (w? e x.l)
def mb{α:Type}(ds:List Nat)(k:Nat)(e:α->List PV)(x:Sl (Sl α)):qE:= .jf x.nil ds (oE k e x.l) none
section
variable {α:Type} (k:Nat) (e:α->List PV) (l:List (Sl α))
theorem oE_len:(oE k e l).length=l.length:=by simp[oE]
theorem oE_nil:oE k e []=[]:=rfl
theorem oE_get{i:Int}{x:Sl α}(h:qh l i=some x):(oE k e l)[i.toNat]? =some (.sl x.nil (zV k x.l) (w? e x.l)):=by simp[oE,oA h]
theorem oE_flat:(w? (mz k e) l).flatten=oE k e l:=by induction l with|nil=>rfl|cons x l ih=>simp[oE,mz]at ih |-; exact ih
end
theorem MP{α:Type}{l r:List α}{n:Int}(h:kF l n=some r):r.length=n.toNat:=by unfold kF at h;split at h;rename_i hc;cases h;rw[List.length_take];omega;cases h
theorem My{α:Type}{e:α->List PV}(he: ∀x,(e x).all PV.V0=true)(l:List α):cr (w? e l)=true:=by simp[cr];intro x _;simpa using he x
theorem szc_or2{α:Type}(k:Nat)(l:List α):(l.isEmpty=true\/zV k l=k)=True:=by cases l<;>simp[zV]
def mQ{α:Type}(d:α):List (Nat×α)->Nat->α
 |[],_=>d
 |(a,x)::r,k=>if a=k then x else mQ d r k
class zf {β:Type} (o:Option β) (Q:outParam (β->Prop)):Prop where
 ok: ∀r,o=some r->Q r
class FnC (G:GP) (f:FuncId) (fi:outParam FI):Prop where
 h:G.fn f=some fi
abbrev Dy(x:Func):FI:=⟨x.ntmps,x.results.toList,x.body.get!⟩
theorem fnK{G:GP}{f:FuncId}{x:FI}(h:G.fn f=some x:=by kernel_rfl):FnC G f x:=⟨h⟩
abbrev Lp(a b:List Nat):pF:=⟨a,b,[],[],[],0⟩
abbrev Lq(a b p:List Nat):pF:=⟨a,b,p,[],[],0⟩
def jk:PV:= .int .i64 0
def sN:PV:= .str []
def mq:PV:= .bool false
def kL:PV:= .sl true 0 []
def tF:Option TI:=some ⟨1,8,.func,[.fh],false,none⟩
def tS(e:TypeId):Option TI:=some ⟨1,24,.slice e,[.sl true 0 []],false,none⟩
def tP(e:TypeId):Option TI:=some ⟨1,8,.ptr,[.yd],false,some e⟩
def tT(n b:Nat)(fs:List (Nat×Nat×TypeId))(z:List PV):Option TI:=some ⟨n,b,.struct fs,z,true,none⟩
class wx (α:Type) (k:outParam Nat) (e:outParam (α->List PV)):Prop where
 t:True
instance:wx UInt8 1 Jg:=⟨trivial⟩
instance:wx Int 1 zL:=⟨trivial⟩
instance:wx Bool 1 BH:=⟨trivial⟩
instance:wx qa 1 ay:=⟨trivial⟩
instance{α:Type}{k:Nat}{e:α->List PV}[wx α k e]:wx (Sl α) 1 (mz k e):=⟨trivial⟩
instance{α:Type}{k:Nat}{e:α->List PV}[wx α k e]:wx (α×α) (k+k) (Ou e):=⟨trivial⟩
section
variable {α β γ:Type} {r:β} {P:Prop} {a b:Bool} {p q:Option β}
theorem iA(f:a=true->(if b=true then p else q)=some r->P)(g:a=false->q=some r->P)(h:(if (a&&b)=true then p else q)=some r):P:=by cases a;exact g rfl (by simpa using h);exact f rfl (by simpa using h)
theorem iO(f:a=true->p=some r->P)(g:a=false->(if b=true then p else q)=some r->P)(h:(if (a || b)=true then p else q)=some r):P:=by cases a;exact g rfl (by simpa using h);exact f rfl (by simpa using h)
theorem bsS{o:Option (α⊕γ)}{k:α⊕γ->Option β}(f: ∀y,o=some (.inl y)->k (.inl y)=some r->P)(g: ∀y,o=some (.inr y)->k (.inr y)=some r->P)(h:o>>=k=some r):P:=by obtain⟨x,h1,h2⟩:=R!.1 h;cases x with|inl y=>exact f y h1 h2|inr y=>exact g y h1 h2
theorem bsS3{δ:Type}{o:Option (α⊕(γ⊕δ))}{k:α⊕(γ⊕δ)->Option β}(f: ∀y,o=some (.inl y)->k (.inl y)=some r->P)(g: ∀y,o=some (.inr (.inl y))->k (.inr (.inl y))=some r->P)(g' : ∀y,o=some (.inr (.inr y))->k (.inr (.inr y))=some r->P)(h:o>>=k=some r):P:=
 bsS f (fun y=>by cases y with|inl y=>exact g y|inr y=>exact g' y) h
variable {i lo hi:Int}
theorem bsS4{δ ε:Type}{o:Option (α⊕(γ⊕(δ⊕ε)))}{k:α⊕(γ⊕(δ⊕ε))->Option β}(f: ∀y,o=some (.inl y)->k (.inl y)=some r->P)(g: ∀y,o=some (.inr (.inl y))->k (.inr (.inl y))=some r->P)(g' : ∀y,o=some (.inr (.inr (.inl y)))->k (.inr (.inr (.inl y)))=some r->P)(g'' : ∀y,o=some (.inr (.inr (.inr y)))->k (.inr (.inr (.inr y)))=some r->P)(h:o>>=k=some r):P:=
 bsS3 f g (fun y=>by cases y with|inl y=>exact g' y|inr y=>exact g'' y) h
theorem wgO{l:List (Sl α)}{k:Sl α->Option β}{n:Nat}{e:α->List PV}[wx α n e](f: ∀x,qh l i=some x->(∀ kd,vM (.pv (.int kd i))=some i.toNat)->l[i.toNat]? =some x->(w? (mz n e) l)[i.toNat]? =some (mz n e x)->(oE n e l)[i.toNat]? =some (.sl x.nil (zV n x.l) (w? e x.l))->(i.toNat<l.length)=True->l.isEmpty=false->(∀ z,zV z l=z)->k x=some r->P)(h:qh l i>>=k=some r):P:=
 bs (fun x hx=>f x hx (lM hx) (oA hx) (lL _ hx) (oE_get n e l hx) (Ql hx) (Hi hx) (ZY hx)) h
theorem wgV{l:Sl α}{k:α->Option β}{n:Nat}{e:α->List PV}[wx α n e](f: ∀x,qh l.l i=some x->(∀ kd,vM (.pv (.int kd i))=some i.toNat)->(w? e l.l)[i.toNat]? =some (e x)->(∀ z,(zV z l.l=z)=True)->(i.toNat<l.l.length)=True->k x=some r->P)(h:qh l.l i>>=k=some r):P:=
 bs (fun x hx=>f x hx (lM hx) (lL e hx) (Fu hx) (Ql hx)) h
variable {l:List α}
theorem wg{k:α->Option β}{n:Nat}{e:α->List PV}[wx α n e](f: ∀x,qh l i=some x->(∀ kd,vM (.pv (.int kd i))=some i.toNat)->l[i.toNat]? =some x->(w? e l)[i.toNat]? =some (e x)->(i.toNat<l.length)=True->l.isEmpty=false->(∀ z,zV z l=z)->k x=some r->P)(h:qh l i>>=k=some r):P:=
 bs (fun x hx=>f x hx (lM hx) (oA hx) (lL e hx) (Ql hx) (Hi hx) (ZY hx)) h
variable {k:List α->Option β}
theorem w2{n:Nat}{e:α->List PV}[wx α n e](f: ∀x,jj l lo hi=some x->(∀ kd,vM (.pv (.int kd lo))=some lo.toNat)->(∀ kd,vM (.pv (.int kd hi))=some hi.toNat)->(lo.toNat<=hi.toNat)=True->(hi.toNat<=l.length)=True->(l.take hi.toNat).drop lo.toNat=x->((w? e l).take hi.toNat).drop lo.toNat=w? e x->(∀ z,zV (zV z l) x=zV z x)->k x=some r->P)(h:jj l lo hi>>=k=some r):P:=
 bs (fun x hx=>f x hx (Dk hx) (Di hx) (Dj hx) (MO hx) (Xq hx) (ND e hx) (MT hx)) h
theorem wF{n:Nat}{e:α->List PV}[wx α n e](f: ∀x,bH l lo=some x->(∀ kd,vM (.pv (.int kd lo))=some lo.toNat)->(lo.toNat<=l.length)=True->l.drop lo.toNat=x->(w? e l).drop lo.toNat=w? e x->(∀ z,zV (zV z l) x=zV z x)->k x=some r->P)(h:bH l lo>>=k=some r):P:=
 bs (fun x hx=>f x hx (subF_lo hx) (subF_le hx) (Gp hx) (q0h e hx) (szc_subF hx)) h
theorem wT{n:Nat}{e:α->List PV}[wx α n e](f: ∀x,kF l hi=some x->(∀ kd,vM (.pv (.int kd hi))=some hi.toNat)->(hi.toNat<=l.length)=True->l.take hi.toNat=x->(w? e l).take hi.toNat=w? e x->(∀ z,zV (zV z l) x=zV z x)->x.length=hi.toNat->k x=some r->P)(h:kF l hi>>=k=some r):P:=
 bs (fun x hx=>f x hx (subT_hi hx) (subT_len hx) (Gr hx) (q0i e hx) (szc_subT hx) (MP hx)) h
end
abbrev xy{α β:Type}(f:α->Option β)(Q:α->β->Prop):Prop:= ∀p,zf (f p) (Q p)
theorem gP{α β:Type}{f:α->Option β}{Q:α->β->Prop}{F:(α->Option β)->α->Option β}(pc: ∀m:α->β->Prop,(∀ g:α->Option β,(∀ x r,g x=some r->m x r)-> ∀x r,F g x=some r->m x r)-> ∀x r,f x=some r->m x r)
  (h: ∀g:α->Option β,xy g Q-> ∀p r,F g p=some r->Q p r):xy f Q:=fun p=>⟨pc Q (fun g i=>h g fun p=>⟨i p⟩) p⟩
class VV (α:Type) (f:outParam (α->AV)):Prop where
 t:True
instance:VV Int qi:=⟨trivial⟩
instance:VV Bool zu:=⟨trivial⟩
instance:VV qa qM:=⟨trivial⟩
instance{α:Type}{k:Nat}{e:α->List PV}[wx α k e]:VV (Sl α) (v_l k e):=⟨trivial⟩
def vv{α:Type}{f:α->AV}[VV α f](x:α):AV:=f x
theorem ma{α:Type}{f:α->AV}[VV α f](x:α):vv x=f x:=rfl
def bb{α:Type}{k:Nat}{e:α->List PV}[wx α k e](x:α):qE:=b_x (e x)
theorem nO{α:Type}{k:Nat}{e:α->List PV}[wx α k e](x:α):bb x=b_x (e x):=rfl
def br{α:Type}{k:Nat}{e:α->List PV}[wx α k e](l:List α):qE:=b_r k e l
theorem nQ{α:Type}{k:Nat}{e:α->List PV}[wx α k e](l:List α):br l=b_r k e l:=rfl
def bm{α:Type}{k:Nat}{e:α->List PV}[wx α k e](l:List α):qE:= .row false k (w? e l)
theorem nP{α:Type}{k:Nat}{e:α->List PV}[wx α k e](l:List α):bm l= .row false k (w? e l):=rfl
def nz{α:Type}(b:Bool)(k:Nat)(l:List α):Nat:=match b with|true=>zV k l|false=>k
theorem nz_t{α:Type}(k:Nat)(l:List α):nz true k l=zV k l:=rfl
theorem nz_f{α:Type}(k:Nat)(l:List α):nz false k l=k:=rfl
theorem nz_or{α β:Type}(b:Bool)(k:Nat)(e:α->β)(l:List α):(nz b k l=k\/w? e l=[])=True:=by cases b<;>cases l<;>simp[nz,zV]
def bN{α:Type}{k:Nat}{e:α->List PV}[wx α k e](x:Sl α):qE:= .row x.nil (nz x.nil k x.l) (w? e x.l)
theorem bN_eq{α:Type}{k:Nat}{e:α->List PV}[wx α k e](x:Sl α):bN x= .row x.nil (nz x.nil k x.l) (w? e x.l):=rfl
theorem q0y(k:IntKind){n:Int}(h:0<=n):vM (.pv (.int k n))=some n.toNat:=q0z k h
section
variable {α β:Type} (e:α->β) (l r:List α) (k:Nat)
theorem Sb{l r:List α}(h:(l.isEmpty&&r.isEmpty)=false)(k:Nat):zV k (l++r)=k:=app_szc h k
theorem DW:pr []=some []:=rfl
theorem DX(n:Int)(r:List (List PV)):pr ([.int .u8 n]::r)=(pr r).map fun l=>u8 n::l:=by rw[pr];cases pr r<;>rfl
theorem scal_int(l:List Int):cr (w? zL l)=true:=My (fun _=>rfl) l
theorem scal_rep(n:Nat)(k:IntKind)(z:Int):cr (b? n [n? k z])=true:=by unfold cr;rw[Z!];intro x hx;rw[(List.mem_replicate.1 hx).2];rfl
theorem map_oE{α:Type}(k:Nat)(e:α->List PV)(l:List (Sl α)):(oE k e l).map (fun p=>[p])=w? (mz k e) l:=by unfold oE mz;rw[List.map_map];rfl
structure Fit (l:List α) (n:Nat):Prop where
 h:l.length<=n
theorem take_ge{n:Nat}{l:List α}(h:Fit l n):l.take n=l:=List.take_of_length_le h.h
theorem szc_apC(a t:List α)(c:α)(k:Nat):zV k (a++c::t)=k:=by cases a<;>rfl
theorem szc_apL(a t b:List α)(c:α)(k:Nat):zV k (a++c::t++b)=k:=by cases a<;>rfl
theorem AX(l:List Int)(i:Nat)(k:IntKind)(z:Int):cr ((w? zL l).set i [n? k z])=true:=by unfold cr;rw[Z!];intro x hx;rcases List.mem_or_eq_of_mem_set hx with hx|rfl;obtain⟨a,_,rfl⟩:=List.mem_map.1 hx;rfl;rfl
theorem szc_repI(k n:Nat)(kd:IntKind)(z:Int):zV k (b? n [n? kd z])=zV k (b? n z):=by cases n<;>rfl
theorem T0(l:qa)(i:Nat)(c:UInt8):pr ((w? Jg l).set i [n? .u8 (c.toNat:Int)])=some (l.set i c):=by have:[n? .u8 (c.toNat:Int)]=Jg c:=rfl;rw[this,<- W_,lz]
theorem oE_one{α:Type}(k:Nat)(e:α->List PV)(x:Sl α):oE k e [x]=[l? x.nil (zV k x.l) (w? e x.l)]:=rfl
theorem oE_setR{α:Type}(k:Nat)(e:α->List PV)(l:List (Sl α))(n:Nat)(x:Sl α):oE k e (l.set n x)=(oE k e l).set n (l? x.nil (zV k x.l) (w? e x.l)):=by simp[oE,W_]
theorem szcN{α:Type}{l:List α}(h:l.isEmpty=false)(k:Nat):zV k l=k:=by cases l<;>simp_all [zV]
theorem oE_take{α:Type}(k:Nat)(e:α->List PV)(l:List (Sl α))(n:Nat):(oE k e l).take n=oE k e (l.take n):=by simp[oE]
theorem rG2{α:Type}(k:Nat)(e:α->List PV)(l:List α)(te:TI)(β nx:Nat)(c d:List PV)(hk:k=te.size)(hr:qg (l.length+2) te.bytes=true):
  eH te β l.length l.length [c,d] nx (some (.row l.isEmpty (zV k l) (w? e l)))=some (.row β (w? e l++[c,d]).length 0 (w? e l++[c,d]).length,[(β,.row false k (w? e l++[c,d]))],nx):=Mu te β k nx e l c [d] hk hr
theorem rZ(te:TI)(β nx:Nat)(src:List (List PV)):eH te β 0 0 src nx (some (.row true 0 []))=jX te (.row β 0 0 0) src β nx nx:=rfl
theorem fE0(te:TI)(v:AV)(b nx fm:Nat):jX te v [] b nx fm=some (v,[],nx):=rfl
theorem set_id{l:List α}{i:Nat}{x:α}(h:l[i]? =some x):l.set i x=l:=by apply List.ext_getElem?;intro j;rw[List.getElem?_set];split;rename_i h2;subst h2;split;exact h.symm;rename_i h3;rw[List.getElem?_eq_none o?]at h;cases h;rfl
theorem oS1{α:Type}{k i n:Nat}{e:α->List PV}{l:List (Sl α)}{m:List (List PV)}(h:(oE k e l)[i]? =some (l? false n m)):(oE k e l).set i (l? false n m)=oE k e l:=set_id h
theorem oE_end{α:Type}(k:Nat)(e:α->List PV)(l:List (Sl α))(c d:PV)(t:List PV):(oE k e l++c::t).set l.length d=oE k e l++d::t:=by
 have:l.length=(oE k e l).length:=by simp[oE]
 rw[this];simp
theorem oE_app{α:Type}(k:Nat)(e:α->List PV)(l r:List (Sl α)):oE k e (l++r)=oE k e l++oE k e r:=by simp[oE]
end
end Go.Gm
namespace Go.Proofs.YtnojdepmnnebnaaGreat
open Go Go.Gm
def ownL:List (Nat×Bool):=[(46,true),(47,true),(76,true),(78,true),(79,true),(92,true),(129,true),(130,true),(140,true),(178,true),(182,true),(183,true),(184,true),(185,true),(198,true),(199,true),(204,true),(206,true),(207,true),(227,true),(228,true),(268,true)]
def kpL:List (Nat×Bool):=[(16,true),(24,true),(43,true),(46,true),(75,true),(78,true),(83,true),(100,true),(146,true),(178,true),(204,true),(228,true),(268,true),(298,true)]
def prL:List (Nat×List (Nat×List Nat)):=[(28,[(15,[4])]),(372,[(7,[11])])]
def fzL:List (Nat×Bool):=[(416,true)]
def mfL:List (Nat×Bool):=[(107,true),(182,true)]
def cmL:List (Nat×List (Nat×List Dx)):=[(16,[(3,[.GG 4])]),(17,[(27,[.cut 5000]),(43,[.cut 6000])]),(37,[(3,[.prom 4011 [1]]),(11,[.pack 4011]),(30,[.GG 4011])]),(71,[(2,[.focus 4000 [5000]]),(999999,[.pack 4000])]),(72,[(2,[.focus 4000 [2]]),(999999,[.pack 4000])]),(100,[(3,[.prom 4003 [1,1]]),(11,[.pack 4003]),(999999,[.GG 2003])]),(101,[(7,[.cut 3000]),(9,[.cut 4000])]),(103,[(23,[.cut 3000]),(999999,[.cut 3000])]),(119,[(5,[.pack 4000])]),(120,[(0,[.GG 0])]),(146,[(3,[.prom 3 [1]]),(11,[.pack 3])]),(150,[(48,[.focus 4000 [20]]),(49,[.pack 4000])]),(152,[(12,[.focus 4000 [1,2]]),(13,[.pack 4000]),(26,[.focus 4000 [1,2]]),(27,[.pack 4000]),(28,[.focus 4000 [1,2]]),(29,[.pack 4000]),(40,[.focus 4000 [1,2]]),(41,[.pack 4000])]),(204,[(9,[.prom 19 [1]]),(52,[.focus 1 [21]]),(53,[.pack 1]),(65,[.pack 19]),(999999,[.GG 14])]),(205,[(0,[.GG 1])])]
def spL:List (Nat×List (Nat×pF)):=[(3,[(0,Lp [11,12,13,14,15,17,18,19,20] [10,12,13,14,15,17,19]),(2,Lp [11,12,13,14,15,17,18,19,20,21] [10,11,12,13,14,15,17,18,19,20])]),(4,[(0,Lp [1,2,7] [6]),(2,Lp [1,2,7,8] [1,2,7])]),(6,[(0,⟨[0,2,3,5],[2,3],[],[(3,4),(3,5)],[],2⟩)]),(9,[(0,⟨[2,5,18,19,20],[4],[],[],[18],0⟩)]),(11,[(0,Lp [0,1,5] [4])]),(12,[(0,Lp [1,2,7] [6])]),(15,[(0,Lp [3,6,42,43,44] [2]),(2,Lp [3,6,7,8,9,42,43,44,54,55,56] [2,3,8,42,43,44])]),(16,[(0,Lp [0,4,5] [2,3,4])]),(18,[(0,⟨[2,3,12,13,14],[2,3],[],[(3,2)],[],0⟩),(2,Lp [2,3,6,12,13,14,23,24] [2,3,6,12,13,14])]),(19,[(0,⟨[5,6,12,13,14,34,35,36],[12,14],[],[(14,1),(14,2)],[],0⟩)]),(21,[(0,Lp [1,2,5] [1,2,4])]),(23,[(0,Lp [0,1,7,8,9] [0,1,4])]),(24,[(0,⟨[3,14,15,16],[3],[],[(3,2)],[],0⟩)]),(25,[(0,Lp [0,1] [])]),(26,[(0,⟨[0,14,15,16],[],[],[],[2000],0⟩)]),(27,[(0,Lp [0,3] [2]),(2,Lp [0,3,4] [0,2,3]),(4,Lp [0,3,4,44,45,46] [0,2,3,4])]),(28,[(0,Lp [0,2,11,12] []),(2,⟨[0,2,3,4,11,12,34,35,36],[0,3,4,11,12],[],[(4,1),(4,2)],[],0⟩)]),(29,[(0,Lq [0,2,3,9,10,11] [0,2,3] [3])]),(30,[(0,Lp [0,1,14,15,16] [1,4,5])]),(31,[(0,Lp [0,1,12,13] [4])]),(33,[(0,Lq [0,5,10,11,12] [5] [5]),(2,Lq [0,5,10,11,12,17,18,19] [0,5,10,11,12] [5])]),(34,[(0,Lp [0,1,8,9] [0,1,6,7,8])]),(36,[(0,Lq [1,2,3,10,11,12] [1,2,3] [3]),(2,Lq [1,2,3,5,6,10,11,12,17,18,19] [1,2,3,5,6,10,11,12] [6])]),(37,[(0,⟨[1,2,4,5,10,11,19,20,21],[1,2,4,5,10,11],[],[(11,3)],[],0⟩),(2,Lp [10,11,71,72,73] [10,11])]),(38,[(0,⟨[0,2,3,4,6,10,12,13,14,32,33,34],[10,12,13],[13],[(12,2)],[],0⟩)]),(40,[(0,Lp [3,10,11,12] [2])]),(41,[(0,Lq [3,6,7,8] [3] [3])]),(42,[(0,Lp [0,7,8,9] [0])]),(45,[(0,Lp [2,9,10,11] [4])]),(47,[(0,Lp [0,2,3] [])]),(48,[(0,Lp [2,3,11,12,13] [4,5]),(2,Lp [2,3,6,11,12,13,19,20,21] [2,3,4,5,11,12,13])]),(49,[(0,Lp [0,1,5,10,12,13,14] [0,1,5,10,12]),(2,Lp [0,1,5,10,12,91,92,93] [0,10])]),(50,[(0,⟨[1,3,12,13,14],[1,3],[],[],[1],0⟩),(2,Lq [1,3,6] [6] [6])]),(51,[(0,Lp [0,1,2,3,9,10,11,47,48,49] [0,1,2,3,9,10,11]),(2,Lp [0,1,2,3,15,16,17] [8])]),(52,[(0,Lq [1,2,3,7,8,9] [1,2,3] [3])]),(54,[(0,Lq [4,14,15,16] [4] [4])]),(57,[(0,Lp [0,3] [2])]),(59,[(0,Lq [0,1,5,6] [5] [5])]),(60,[(0,Lq [0,1,2,7,8] [7] [7]),(2,Lq [14,15,16] [15] [15])]),(61,[(0,Lp [0,1,6] [1,4,5])]),(62,[(0,Lq [0,1,2,10,12,13] [0,12] [12])]),(63,[(0,Lp [0,4,5] [4])]),(64,[(0,Lq [1,2,3,6,8,10,11,12] [3,6,7,10,11] [10,11]),(2,⟨[6,10,11,24,25,26,27],[6,24,25],[],[(25,1)],[],0⟩),(4,⟨[6,10,11,24,25,26,27,28,29,30],[6,10,11,24,25,26,27,29],[],[(29,2)],[],0⟩)]),(68,[(0,Lq [1,2,4,6,7,8,9,10] [2,4,6,7,8,9] [8]),(2,Lq [1,2,4,6,7,8,9,10,11,12] [1,2,4,6,7,8,9,10] [8])]),(71,[(0,Lp [0,2,3,5,8,9] [0,2,3,5,8]),(2,Lp [0,3,5,8,10,11] [0])]),(72,[(0,Lp [0,2,4,6,28,29,30] [0])]),(81,[(0,Lp [3,6,7,8] [2,3])]),(83,[(0,Lp [7,8] [7])]),(84,[(0,⟨[1,5,8,9,10],[5],[5],[],[1],0⟩)]),(87,[(0,Lp [1,2,5,12,13,14] [5]),(2,Lp [1,2,5,7,8,12,13,14] [1,2,5,12,13,14])]),(88,[(0,Lp [0,1,7,8] [4])]),(90,[(0,Lp [1,2,3,7,8,9,10] [7,8,9])]),(91,[(0,Lq [1,3,10,12,13,40,41,42] [1,6,7,8,10,12,13] [12]),(2,Lq [1,3,10,12,13,15,16,40,41,42,52,53,54] [1,3,10,12,13,15,16,40,41,42] [16]),(4,Lq [1,3,10,12,15,16,40,41,42,74,75,76] [1,3,10,12,15,40,41,42] [12])]),(95,[(0,Lp [0,1,7,8] [4])]),(98,[(0,Lp [1,3,5] [1,2]),(2,Lp [1,6] [2]),(4,Lp [1,6,7,8] [1,2,6])]),(100,[(0,Lp [1,3,4] [3])]),(101,[(0,Lp [0,1,4] [0,1,4]),(2,Lp [0,4,5,6] [])]),(102,[(0,Lp [0,3] [2]),(2,Lp [0,3,4] [0,2,3]),(4,Lp [0,3,4,5,6] [0,2,3,4])]),(103,[(0,Lp [0,2] []),(2,Lq [0,2,3,4,5] [0,2,3,4] [4])]),(105,[(1,Lp [0,1] [0,1]),(3,Lp [0,1] [1]),(5,Lp [0,1] [0,1]),(7,Lp [0,1] [1])]),(106,[(0,Lq [3,4,5] [4] [4])]),(108,[(0,⟨[0,3,4],[3],[],[],[3],0⟩),(2,Lp [0,3,4,5] [0,3,4,5]),(4,Lq [3,6,7] [6] [6])]),(110,[(0,⟨[0,1,2,8,9],[0,1,2,8,9],[8,9],[],[],2⟩)]),(111,[(0,Lp [0,3,4] [3])]),(113,[(0,Lp [0,1,6] [4,5])]),(114,[(0,Lp [0,2,9,10,16,17] [0,2,9,10,16,17]),(2,Lp [0,2,9,10,16,17] [0,2,9,10,16,17])]),(116,[(0,Lp [0,6,8] [0,6,8])]),(117,[(0,Lp [11,12,13] [11,12]),(2,Lp [15,17,19,20] [15,17,19])]),(118,[(0,Lp [0,3,4,5] [3,4]),(2,Lp [0,3,4,5,6] [0,3,4,5])]),(120,[(0,Lq [1,2,4,6,7,8,9,10] [1,2,4,6,7,9] [9])]),(121,[(0,Lp [0,6,7] [4,5])]),(123,[(0,Lp [0,6,7] [4,5])]),(124,[(0,Lq [1,2,3,11,12,13] [1,2,3] [3])]),(128,[(0,Lp [0,1,14,15,16] [0])]),(129,[(0,Lp [0,1,2,6,7,8] [0,1,2,6,7]),(2,Lp [0,1,2,6] []),(4,Lp [0,1,2,6,7,8] [0,1,2,6,7])]),(130,[(0,Lp [0,1,2,6,7,8] [0,1,2,6,7]),(2,Lp [0,1,2,6] []),(4,Lp [0,1,2,6,7,8] [0,1,2,6,7])]),(139,[(0,Lp [1,5,12,13,14] [5])]),(140,[(0,Lp [0,1,2,6,7,8] [0,1,2,6,7]),(2,Lp [0,1,2,6] []),(4,Lp [0,1,2,6,7,8] [0,1,2,6,7])]),(141,[(0,Lp [2,5] [4]),(2,Lp [2,5,6,8] [2,4,5])]),(142,[(0,Lp [1,2,5] [4])]),(143,[(0,Lq [0,1,5,6] [5] [5]),(2,Lq [0,1,5,6,7] [0,1,5,6] [5])]),(144,[(0,Lp [0,1,5] [1,4])]),(145,[(0,Lp [0,1,5] [0])]),(146,[(0,Lq [1,3,4] [3] [3])]),(147,[(0,Lp [1,2,5] [4])]),(148,[(0,⟨[0,3,4],[3],[],[],[3],0⟩),(2,Lp [0,3,4,5] [0,3,4,5])]),(149,[(0,Lp [2,3,6] [4,5]),(2,Lp [2,3,6,7] [2,3,4,5,6])]),(150,[(0,Lp [0,1,2,3,5,10,12,13,14,15] [0,1,2,3,5,10,12,13,14]),(2,Lp [0,1,5,10,12,13,14,16,17] [0,1,5,10,12,13,14]),(4,Lp [0,1,5,10,12,13,14,20] [0,10])]),(151,[(0,⟨[1,3,4],[1,3],[],[],[1],0⟩),(2,Lq [1,3,5] [5] [5]),(4,Lp [1,3,5,6,7,8] [1,3,5,6,7]),(6,Lp [1,3,5,6,7,9] [1,3,5,6])]),(152,[(0,Lp [0,1,2,3,9,10,11] [0,1,2,3,9,10]),(2,Lp [0,1,2,3,9,12,13] [0,1,2,3,9,12]),(4,Lp [0,1,2,3,14,15] [8])]),(154,[(0,Lp [0,1] [1])]),(155,[(0,Lp [0,1] [0,1])]),(161,[(0,⟨[0,3,4],[3],[],[],[3],0⟩),(2,Lp [0,3,4,5] [0,3,4,5])]),(166,[(0,Lq [0,4,7,8] [0,4,7,8] [7]),(2,Lp [0,4,12,14] [0,4,5,6,12,14])]),(167,[(0,⟨[0,1,6,7],[0,1,6,7],[6,7],[],[],2⟩)]),(169,[(0,Lq [0,3,4] [3] [3])]),(170,[(0,Lp [0,3] [2])]),(171,[(0,Lp [0,3] [3])]),(172,[(0,Lp [0,1,5] [5])]),(173,[(0,Lp [0,2,3,4] [2,3])]),(174,[(0,⟨[0,1,2,6],[],[],[(0,3),(0,4),(0,5)],[],0⟩)]),(175,[(0,Lp [0,2,3] [0,2]),(2,Lp [0,2,4] [0]),(4,Lq [0,5,6] [] [5])]),(176,[(0,Lp [0,3] [2]),(2,Lp [0,3,4,5] [0,3,4])]),(177,[(0,⟨[0,1,3,10,11],[8,9,10],[],[(1,0),(1,1)],[],0⟩)]),(178,[(0,Lq [0,1,2,3,5,6,16] [2,6] [2])]),(179,[(0,Lp [0,1,5] [0,1,5])]),(182,[(0,Lp [0,1,2,3,8] []),(2,Lp [0,1,2,3,8,9] [0,1,2,3,8])]),(183,[(0,Lp [0,1,4,10,11] [0,1,10]),(2,Lp [0,10,13] []),(4,Lp [0,2,4,14,15] [0,2,14]),(6,Lp [0,14,17] []),(8,Lp [0,1,2,3,4,18,19,20,21,22] [0,1,2,3,4,18,19,20])]),(184,[(0,Lp [0,1,2,3,8] []),(2,Lp [0,1,2,3,8,9] [0,1,2,3,8])]),(185,[(0,Lp [0,1,4,10,11] [0,1,10]),(2,Lp [0,10,13] []),(4,Lp [0,2,4,14,15] [0,2,14]),(6,Lp [0,14,17] []),(8,Lp [0,1,2,3,4,18,19,20,21,22] [0,1,2,3,4,18,19,20])]),(189,[(0,Lp [0,1,2,3,8,9] [])]),(192,[(0,Lp [0,5,6,7] [2])]),(193,[(0,Lq [11,12,13] [8,9,10,11,12] [12])]),(196,[(1,Lp [6,16,17,18] [6]),(3,Lp [6,31,32,33] [6])]),(198,[(0,Lp [0,1,2,3,8] []),(2,Lp [0,1,2,3,8,9] [0,1,2,3,8])]),(199,[(0,Lp [0,1,4,10,11] [0,1,10]),(2,Lp [0,10,13] []),(4,Lp [0,2,4,14,15] [0,2,14]),(6,Lp [0,14,17] []),(8,Lp [0,1,2,3,4,18,19,20,21,22] [0,1,2,3,4,18,19,20])]),(200,[(0,Lp [0,1,2] [6])]),(202,[(0,Lp [3,4] [2])]),(203,[(0,Lq [0,3,4] [3] [3])]),(204,[(0,⟨[1,6,7,11,14,17,18,19,20,21],[14,18,19],[19],[(18,1)],[],0⟩),(2,⟨[1,6,7,11,14,17,18,19,20,21,22,23,24,25,26],[1,6,7,11,14,17,18,19,20,21,22,23,24],[24],[(22,2)],[],0⟩)]),(205,[(0,Lq [0,1,5,6] [5] [5])]),(206,[(0,Lp [0,1,5] [4])]),(207,[(0,Lp [0,1,2,7] [6]),(2,Lp [0,1,2,7,8] [0,1,2,6,7])]),(208,[(0,Lp [1,2,3,7,8,9] [6,7,8])]),(209,[(0,Lp [1,3,9,10,14,15,16] [1,6,7,8,10,14,15])]),(213,[(0,Lq [0,3,4] [3] [3])]),(214,[(0,Lp [0,1,2,7,8] [0,6])]),(215,[(0,Lp [0,1,7,8] [0,1,7,8])]),(216,[(0,Lp [0,1,7] [0,1,7])]),(218,[(0,Lq [0,1,7] [0,1,7] [7])]),(219,[(0,Lp [2,3,5] [4])]),(222,[(0,Lq [0,1,2,7,8,9] [7] [7])]),(223,[(0,Lp [0,3,4] [2])]),(224,[(0,⟨[0,3,5,8,9,10],[0,3,5,8,9],[],[(9,17)],[],0⟩)]),(225,[(0,Lp [0,1,5] [0,1,4])]),(226,[(0,Lp [0,1,5] [4])]),(227,[(0,Lp [0,1,5] [4])]),(228,[(0,Lq [0,1,2,7] [2] [2])]),(230,[(0,Lp [0,2,4,10,11] [0,2,4,10])]),(231,[(0,Lp [0,2,4,10,11] [0,2,4,10])]),(232,[(0,Lp [0,1,2,6] []),(2,Lp [0,1,2,6,7] [0,1,2,6])]),(233,[(0,Lp [0,6,7,8,9] [0,6,7,8]),(2,Lp [0,6,7,10] [])]),(234,[(0,Lp [0,1,6,7,8,9] [])]),(236,[(0,Lp [0,6,7] [])]),(237,[(0,Lp [0,1,2,7,8] [6]),(2,Lp [0,1,2,7,8] [0,1,2,7,8]),(4,Lp [0,1,2,7,8,9] [0,1,2,7,8]),(6,Lp [0,1,2,7,8,10] [0,1,2,7,8])]),(239,[(0,Lp [0,1,9,10] [9]),(2,Lp [0,1,9,10] [0,1,9,10]),(4,Lp [0,1,9,10] [0,1,9,10])]),(240,[(0,Lp [0,1,10,11] [0,1,10,11]),(2,Lp [0,1,10,11] [0,1,10,11]),(4,Lp [0,1,10,11] [0,1,11]),(6,Lp [0,1,10,11] [0,1,10,11]),(8,Lp [0,1,10,11] [0,1,10,11])]),(243,[(0,Lp [1,2,31,32,33] [1,6,7])]),(246,[(0,Lp [0,1,4] [4,5])]),(252,[(0,Lp [0,1,5,6] [5])]),(253,[(0,Lp [0,2,4,10,11] [0,2,4,10])]),(254,[(0,Lq [1,3,4] [3] [3]),(2,Lq [1,3,4,5,6] [1,3,4] [3])]),(255,[(0,Lp [0,1,5,7,8] [0,1,5,7]),(2,Lp [0,1,5,7,9,10] [9])]),(256,[(0,Lp [0,1,3,6,9,10,11] [0,1,3,6,9,10]),(2,Lp [0,1,3,6,9,10,12] [9])]),(257,[(0,Lp [1,3,7,8] [7])]),(259,[(0,Lp [0,1,7,8] [0])]),(261,[(0,Lq [4,11,12,13] [8,9,10,11,12] [12])]),(263,[(0,Lq [1,3,5,7,8] [3,7] [7])]),(264,[(0,Lq [0,3,4,5] [3] [3])]),(265,[(0,Lq [0,1,4,6] [4,5] [6]),(2,Lq [0,1,4,6,7] [0,1,4,5,6,7] [7])]),(266,[(1,Lp [0,4,8,10,11] [4,5,6])]),(269,[(0,Lp [2,3,5] [2,3,4]),(2,Lp [2,3,6] [4])]),(271,[(0,Lp [0,1,5] [4])]),(273,[(0,Lp [0,1,2,3,10] [])]),(274,[(0,Lp [0,1,2,3,10] [])]),(275,[(0,Lp [0,2,3,8] [])]),(284,[(0,Lq [0,3,4] [3] [3])]),(285,[(0,Lq [0,3,4] [3] [3])]),(286,[(0,⟨[1,4,5,22,23,24],[1,4,5],[],[(5,8)],[],0⟩)]),(287,[(0,Lp [7,8] [7])]),(289,[(0,Lp [0,1,6,7,8] [0,1,6,7])]),(294,[(0,Lp [0,1,2,3,10] [])]),(297,[(0,Lp [0,3] [2])]),(299,[(0,Lp [0,2,4,6] [6,7])]),(300,[(0,Lp [0,1,5] [4])]),(302,[(0,Lp [0,1,5,6] [5])]),(309,[(0,Lq [0,1,2,9] [0,1,9] [9])]),(313,[(0,Lp [0,5,6,7] [2])]),(317,[(0,Lp [0,1] [1])]),(318,[(0,Lp [0,4,5] [])]),(319,[(1,Lp [0,2,3,29,30,31] [8])]),(322,[(0,Lp [1,3,4] [3])]),(323,[(0,Lp [1,3,4] [1,3])]),(324,[(0,Lp [1,3,4] [1,2,3]),(3,Lp [1,3,5] [1,2,3]),(5,Lp [1,3,6] [1,2,3])]),(325,[(0,Lq [0,3,4] [3] [3])]),(326,[(0,Lq [0,2,4,6,8,9] [0,2,4,6,8] [8])]),(327,[(1,Lp [6,7] [6]),(3,Lp [6,8] [6]),(5,Lp [1,9,10,11] [10])]),(330,[(0,Lq [0,1,5,6] [5] [5])]),(344,[(0,Lp [0,3] [2])]),(346,[(0,Lp [1,3,4] [3])]),(347,[(1,Lp [0,1,2,3,12,13,14] [0,2,3,12]),(3,Lp [0,1,2,3,15,16] [8,9,10])]),(350,[(0,Lq [0,3,4] [3] [3])]),(351,[(0,Lq [0,2,4,5] [2,3,4,5] [5])]),(353,[(0,Lp [0,4,5] [4,5])]),(354,[(0,Lp [0,1,7,8] [4])]),(359,[(0,Lp [3,8,9,10] [3])]),(366,[(0,⟨[0,3,4],[3],[],[],[3],0⟩),(2,Lp [0,3,4,5,6] [0,3,4,5,6]),(4,Lq [3,7,8] [7] [7])]),(367,[(0,Lp [3,4] [3])]),(370,[(0,Lp [1,7,8,9] [4])]),(371,[(0,Lp [3,8,9,10] [3])]),(372,[(0,Lp [0,1,2,11,12] [0,1,2,11])]),(377,[(0,Lp [0,1,5] [4])]),(378,[(0,Lp [3,4] [3])])]
noncomputable def G:GP:=gpOf Tryz.prog (fun f=>mQ {} (mQ [] spL f)) (mQ false ownL) (mQ false kpL) (fun f=>mQ [] (mQ [] prL f)) (mQ false fzL) (mQ false mfL) (fun f=>mQ [] (mQ [] cmL f))
theorem tbA:(∀ k,G.owned k=mQ false ownL k)/\(∀ k,G.sm k=mQ false kpL k)/\(∀ k i,G.pre k i=mQ [] (mQ [] prL k) i)/\(∀ k,G.GG k=mQ false fzL k)/\(∀ k,G.ER k=mQ false mfL k)/\(∀ k i,G.spec k i=mQ {} (mQ [] spL k) i)/\ ∀k i,G.cmd k i=mQ [] (mQ [] cmL k) i:=⟨fun _=>rfl,fun _=>rfl,fun _ _=>rfl,fun _=>rfl,fun _=>rfl,fun _ _=>rfl,fun _ _=>rfl⟩
theorem tiA0:G.ti 2=some ⟨1,8,.int .i64,[.int .i64 0],false,none⟩/\G.ti 3=some ⟨1,8,.int .i64,[.int .i64 0],false,none⟩/\G.ti 4=some ⟨1,1,.bool,[.bool false],false,none⟩/\G.ti 5=some ⟨1,1,.int .u8,[.int .u8 0],false,none⟩/\G.ti 9=some ⟨1,16,.string,[.str []],false,none⟩/\G.ti 22=tS 58/\G.ti 23=tT 2 16 [(0,1,3),(1,1,3)] [jk,jk]/\G.ti 24=tT 2 16 [(0,1,3),(1,1,3)] [jk,jk]/\G.ti 25=tT 3 32 [(0,2,24),(2,1,9)] [jk,jk,sN]/\G.ti 26=tT 3 32 [(0,2,24),(2,1,9)] [jk,jk,sN]/\G.ti 29=tS 90/\G.ti 30=tS 36/\G.ti 31=tT 3 64 [(0,1,9),(1,1,29),(2,1,30)] [sN,kL,kL]/\G.ti 32=tT 3 64 [(0,1,9),(1,1,29),(2,1,30)] [sN,kL,kL]/\G.ti 34=tS 40/\G.ti 35=tT 2 32 [(0,1,3),(1,1,34)] [jk,kL]/\G.ti 36=tT 2 32 [(0,1,3),(1,1,34)] [jk,kL]/\G.ti 38=tS 50/\G.ti 39=tT 3 40 [(0,2,24),(2,1,38)] [jk,jk,kL]/\G.ti 40=tT 3 40 [(0,2,24),(2,1,38)] [jk,jk,kL]/\G.ti 41=tS 268/\G.ti 42=tS 44/\G.ti 43=tT 8 104 [(0,1,3),(1,1,9),(2,1,4),(3,1,41),(4,1,3),(5,1,3),(6,1,4),(7,1,42)] [jk,sN,mq,kL,jk,jk,mq,kL]/\G.ti 44=tT 8 104 [(0,1,3),(1,1,9),(2,1,4),(3,1,41),(4,1,3),(5,1,3),(6,1,4),(7,1,42)] [jk,sN,mq,kL,jk,jk,mq,kL]/\G.ti 45=tS 212/\G.ti 46=tT 11 136 [(0,8,44),(8,1,45),(9,1,4),(10,1,4)] [jk,sN,mq,kL,jk,jk,mq,kL,kL,mq,mq]/\G.ti 47=tT 11 136 [(0,8,44),(8,1,45),(9,1,4),(10,1,4)] [jk,sN,mq,kL,jk,jk,mq,kL,kL,mq,mq]/\G.ti 48=tS 9/\G.ti 49=tT 18 200 [(0,2,24),(2,1,3),(3,1,3),(4,1,4),(5,1,4),(6,11,47),(17,1,48)] [jk,jk,jk,jk,mq,mq,jk,sN,mq,kL,jk,jk,mq,kL,kL,mq,mq,kL]/\G.ti 50=tT 18 200 [(0,2,24),(2,1,3),(3,1,3),(4,1,4),(5,1,4),(6,11,47),(17,1,48)] [jk,jk,jk,jk,mq,mq,jk,sN,mq,kL,jk,jk,mq,kL,kL,mq,mq,kL]/\G.ti 56=tS 26/\G.ti 57=tT 7 104 [(0,1,3),(1,1,9),(2,1,9),(3,1,3),(4,1,4),(5,1,56),(6,1,29)] [jk,sN,sN,jk,mq,kL,kL]/\G.ti 58=tT 7 104 [(0,1,3),(1,1,9),(2,1,9),(3,1,3),(4,1,4),(5,1,56),(6,1,29)] [jk,sN,sN,jk,mq,kL,kL]/\G.ti 60=some ⟨1,8,.int .i64,[.int .i64 0],false,none⟩/\G.ti 65=tP 72/\G.ti 69=tS 100/\G.ti 70=tS 32/\G.ti 71=tT 6 136 [(0,3,32),(3,1,69),(4,1,70),(5,1,70)] [sN,kL,kL,kL,kL,kL]/\G.ti 72=tT 6 136 [(0,3,32),(3,1,69),(4,1,70),(5,1,70)] [sN,kL,kL,kL,kL,kL]/\G.ti 73=some ⟨1,8,.int .u64,[.int .u64 0],false,none⟩:=by repeat' (first|apply g?|kernel_rfl)
theorem tiA1:G.ti 74=tS 104/\G.ti 75=tT 3 56 [(0,2,36),(2,1,74)] [jk,kL,kL]/\G.ti 76=tT 3 56 [(0,2,36),(2,1,74)] [jk,kL,kL]/\G.ti 80=some ⟨1,8,.map 3 3,[.bT],false,none⟩/\G.ti 84=tP 121/\G.ti 89=tT 2 16 [(0,1,3),(1,1,3)] [jk,jk]/\G.ti 90=tT 2 16 [(0,1,3),(1,1,3)] [jk,jk]/\G.ti 94=tS 24/\G.ti 99=tT 2 32 [(0,1,9),(1,1,9)] [sN,sN]/\G.ti 100=tT 2 32 [(0,1,9),(1,1,9)] [sN,sN]/\G.ti 104=tS 106/\G.ti 105=tT 2 16 [(0,1,3),(1,1,4)] [jk,mq]/\G.ti 106=tT 2 16 [(0,1,3),(1,1,4)] [jk,mq]/\G.ti 107=tS 111/\G.ti 108=tT 6 72 [(0,3,26),(3,1,107),(4,1,3),(5,1,3)] [jk,jk,sN,kL,jk,jk]/\G.ti 109=tT 6 72 [(0,3,26),(3,1,107),(4,1,3),(5,1,3)] [jk,jk,sN,kL,jk,jk]/\G.ti 111=tS 3/\G.ti 119=tS 76/\G.ti 120=tT 3 64 [(0,1,9),(1,1,29),(2,1,119)] [sN,kL,kL]/\G.ti 121=tT 3 64 [(0,1,9),(1,1,29),(2,1,119)] [sN,kL,kL]/\G.ti 134=tF/\G.ti 141=tS 191/\G.ti 151=tP 109/\G.ti 155=tF/\G.ti 159=tF/\G.ti 160=tS 162/\G.ti 162=some ⟨2,16,.array 2 3,[.int .i64 0,.int .i64 0],false,none⟩/\G.ti 165=tF/\G.ti 166=tF/\G.ti 170=tF/\G.ti 171=tS 4/\G.ti 176=tF/\G.ti 180=tP 184/\G.ti 182=tS 107/\G.ti 183=tT 4 88 [(0,3,32),(3,1,182)] [sN,kL,kL,kL]/\G.ti 184=tT 4 88 [(0,3,32),(3,1,182)] [sN,kL,kL,kL]/\G.ti 187=tP 189/\G.ti 188=tT 3 64 [(0,1,9),(1,1,141),(2,1,111)] [sN,kL,kL]/\G.ti 189=tT 3 64 [(0,1,9),(1,1,141),(2,1,111)] [sN,kL,kL]/\G.ti 190=tT 18 224 [(0,1,3),(1,1,9),(2,1,3),(3,1,4),(4,1,4),(5,11,47),(16,1,48),(17,1,141)] [jk,sN,jk,mq,mq,jk,sN,mq,kL,jk,jk,mq,kL,kL,mq,mq,kL,kL]:=by repeat' (first|apply g?|kernel_rfl)
theorem tiA2:G.ti 191=tT 18 224 [(0,1,3),(1,1,9),(2,1,3),(3,1,4),(4,1,4),(5,11,47),(16,1,48),(17,1,141)] [jk,sN,jk,mq,mq,jk,sN,mq,kL,jk,jk,mq,kL,kL,mq,mq,kL,kL]/\G.ti 200=tS 38/\G.ti 211=tT 5 56 [(0,1,3),(1,1,3),(2,1,3),(3,1,9),(4,1,9)] [jk,jk,jk,sN,sN]/\G.ti 212=tT 5 56 [(0,1,3),(1,1,3),(2,1,3),(3,1,9),(4,1,9)] [jk,jk,jk,sN,sN]/\G.ti 221=tS 226/\G.ti 224=tS 5/\G.ti 225=tT 3 40 [(0,2,24),(2,1,94)] [jk,jk,kL]/\G.ti 226=tT 3 40 [(0,2,24),(2,1,94)] [jk,jk,kL]/\G.ti 248=tT 4 32 [(0,1,3),(1,1,3),(2,1,3),(3,1,3)] [jk,jk,jk,jk]/\G.ti 249=tT 4 32 [(0,1,3),(1,1,3),(2,1,3),(3,1,3)] [jk,jk,jk,jk]/\G.ti 251=tP 254/\G.ti 252=tS 257/\G.ti 253=tT 6 128 [(0,1,69),(1,1,9),(2,1,9),(3,1,252),(4,1,111),(5,1,48)] [kL,sN,sN,kL,kL,kL]/\G.ti 254=tT 6 128 [(0,1,69),(1,1,9),(2,1,9),(3,1,252),(4,1,111),(5,1,48)] [kL,sN,sN,kL,kL,kL]/\G.ti 256=tT 20 216 [(0,1,3),(1,1,9),(2,1,3),(3,1,4),(4,1,4),(5,1,4),(6,11,47),(17,1,48),(18,1,3),(19,1,3)] [jk,sN,jk,mq,mq,mq,jk,sN,mq,kL,jk,jk,mq,kL,kL,mq,mq,kL,jk,jk]/\G.ti 257=tT 20 216 [(0,1,3),(1,1,9),(2,1,3),(3,1,4),(4,1,4),(5,1,4),(6,11,47),(17,1,48),(18,1,3),(19,1,3)] [jk,sN,jk,mq,mq,mq,jk,sN,mq,kL,jk,jk,mq,kL,kL,mq,mq,kL,jk,jk]/\G.ti 258=tP 260/\G.ti 259=tT 2 48 [(0,1,111),(1,1,48)] [kL,kL]/\G.ti 260=tT 2 48 [(0,1,111),(1,1,48)] [kL,kL]/\G.ti 267=tT 2 32 [(0,1,9),(1,1,9)] [sN,sN]/\G.ti 268=tT 2 32 [(0,1,9),(1,1,9)] [sN,sN]/\G.ti 273=some ⟨1,4,.int .u32,[.int .u32 0],false,none⟩/\G.ti 276=some ⟨1,8,.int .u64,[.int .u64 0],false,none⟩/\G.ti 282=tF/\G.ti 287=tP 289/\G.ti 288=tT 2 32 [(0,1,287),(1,1,224)] [.yd,kL]/\G.ti 289=tT 2 32 [(0,1,287),(1,1,224)] [.yd,kL]/\G.ti 290=some ⟨1,16,.other,[.ia],false,none⟩/\G.ti 291=some ⟨1,16,.other,[.ia],false,none⟩/\G.ti 323=some ⟨1,8,.int .i64,[.int .i64 0],false,none⟩/\G.ti 333=tP 339/\G.ti 335=tS 337/\G.ti 336=tT 11 144 [(0,8,44),(8,1,335),(9,1,3),(10,1,3)] [jk,sN,mq,kL,jk,jk,mq,kL,kL,jk,jk]/\G.ti 337=tT 11 144 [(0,8,44),(8,1,335),(9,1,3),(10,1,3)] [jk,sN,mq,kL,jk,jk,mq,kL,kL,jk,jk]/\G.ti 338=tT 17 240 [(0,11,337),(11,1,4),(12,1,48),(13,1,111),(14,1,94),(15,1,3),(16,1,4)] [jk,sN,mq,kL,jk,jk,mq,kL,kL,jk,jk,mq,kL,kL,kL,jk,mq]/\G.ti 339=tT 17 240 [(0,11,337),(11,1,4),(12,1,48),(13,1,111),(14,1,94),(15,1,3),(16,1,4)] [jk,sN,mq,kL,jk,jk,mq,kL,kL,jk,jk,mq,kL,kL,kL,jk,mq]/\G.ti 344=tF/\G.ti 347=tP 5/\G.ti 348=tS 385/\G.ti 355=tS 358:=by repeat' (first|apply g?|kernel_rfl)
theorem tiA3:G.ti 358=tT 3 40 [(0,2,24),(2,1,94)] [jk,jk,kL]/\G.ti 362=tP 365/\G.ti 364=tT 2 32 [(0,1,48),(1,1,3)] [kL,jk]/\G.ti 365=tT 2 32 [(0,1,48),(1,1,3)] [kL,jk]/\G.ti 372=some ⟨1,8,.int .u64,[.int .u64 0],false,none⟩/\G.ti 376=tP 3/\G.ti 384=tT 3 24 [(0,2,24),(2,1,3)] [jk,jk,jk]/\G.ti 385=tT 3 24 [(0,2,24),(2,1,3)] [jk,jk,jk]/\G.ti 387=tP 390/\G.ti 389=tT 5 72 [(0,1,48),(1,1,111),(2,1,4),(3,1,3),(4,1,4)] [kL,kL,mq,jk,mq]/\G.ti 390=tT 5 72 [(0,1,48),(1,1,111),(2,1,4),(3,1,3),(4,1,4)] [kL,kL,mq,jk,mq]/\G.ti 397=tP 372/\G.ti 414=tP 416/\G.ti 415=tT 13 144 [(0,1,3),(1,8,44),(9,1,3),(10,1,3),(11,1,3),(12,1,414)] [jk,jk,sN,mq,kL,jk,jk,mq,kL,jk,jk,jk,.yd]/\G.ti 416=tT 13 144 [(0,1,3),(1,8,44),(9,1,3),(10,1,3),(11,1,3),(12,1,414)] [jk,jk,sN,mq,kL,jk,jk,mq,kL,jk,jk,jk,.yd]:=by repeat' (first|apply g?|kernel_rfl)
instance fn47:FnC G 47 (Dy Tryz.f47):=fnK
instance fn79:FnC G 79 (Dy Tryz.f79):=fnK
instance L2:FnC G 130 (Dy Tryz.f130):=fnK
instance fn160:FnC G 160 (Dy Tryz.f160):=fnK
instance W9:FnC G 178 (Dy Tryz.f178):=fnK
instance Yw:FnC G 184 (Dy Tryz.f184):=fnK
end Go.Proofs.YtnojdepmnnebnaaGreat
namespace Go.Proofs.YtnojdepmnnebnaaGreat
open Go Go.Gm Go.RowKit Go.Maps Go.Sort Go.Shelf
def YI:Go.Shelf.Ren:=⟨fun|7=>86|10=>135|n=>n,fun|23=>80|26=>3|27=>165|28=>166|33=>170|n=>n,fun n=>n⟩
theorem keysA:SlLaysZI.n7 Tryz.prog YI where
 mixed:=k?
 f7:=⟨Tryz.f86.name,k?,Tryz.func86.trans (congrArg some k?)⟩
 f10:=⟨Tryz.f135.name,k?,Tryz.func135.trans (congrArg some k?)⟩
 t0:=Tryz.underlying0
 a0:=Tryz.isAgg0
 z0:=Tryz.sizeOf0
 v0:=Tryz.zeroValue0
 t4:=Tryz.underlying4
 a4:=Tryz.isAgg4
 z4:=Tryz.sizeOf4
 v4:=Tryz.zeroValue4
 t23:=Tryz.underlying80
 a23:=Tryz.isAgg80
 z23:=Tryz.sizeOf80
 v23:=Tryz.zeroValue80
 t26:=Tryz.underlying3
 a26:=Tryz.isAgg3
 z26:=Tryz.sizeOf3
 v26:=Tryz.zeroValue3
 t27:=Tryz.underlying165
 a27:=Tryz.isAgg165
 z27:=Tryz.sizeOf165
 v27:=Tryz.zeroValue165
 t28:=Tryz.underlying166
 a28:=Tryz.isAgg166
 z28:=Tryz.sizeOf166
 v28:=Tryz.zeroValue166
 t33:=Tryz.underlying170
 a33:=Tryz.isAgg170
 z33:=Tryz.sizeOf170
 v33:=Tryz.zeroValue170
def JG:Go.Shelf.Ren:=⟨fun|6=>85|8=>133|9=>134|11=>188|12=>189|13=>190|14=>232|15=>233|16=>234|17=>235|18=>236|19=>237|20=>238|21=>239|22=>240|23=>241|24=>242|25=>275|26=>276|27=>277|28=>278|29=>279|30=>131|31=>310|n=>n,fun|24=>111|26=>3|28=>166|33=>170|37=>73|39=>323|40=>324|45=>81|48=>273|50=>276|51=>372|55=>376|57=>397|58=>126|n=>n,fun n=>n⟩
theorem sortedA:SlLaysZI.n6 Tryz.prog JG where
 mixed:=k?
 f6:=⟨Tryz.f85.name,k?,Tryz.func85.trans (congrArg some k?)⟩
 f8:=⟨Tryz.f133.name,k?,Tryz.func133.trans (congrArg some k?)⟩
 f11:=⟨Tryz.f188.name,k?,Tryz.func188.trans (congrArg some k?)⟩
 t0:=Tryz.underlying0
 a0:=Tryz.isAgg0
 z0:=Tryz.sizeOf0
 v0:=Tryz.zeroValue0
 t24:=Tryz.underlying111
 a24:=Tryz.isAgg111
 z24:=Tryz.sizeOf111
 v24:=Tryz.zeroValue111
 t26:=Tryz.underlying3
 a26:=Tryz.isAgg3
 z26:=Tryz.sizeOf3
 v26:=Tryz.zeroValue3
 t28:=Tryz.underlying166
 a28:=Tryz.isAgg166
 z28:=Tryz.sizeOf166
 v28:=Tryz.zeroValue166
 i26:=k?
def E7:Go.Shelf.Ren:=⟨fun|5=>134|7=>189|8=>190|10=>232|11=>233|12=>234|13=>235|14=>236|15=>237|16=>238|17=>239|18=>240|19=>241|20=>242|30=>275|31=>276|32=>277|33=>278|34=>279|35=>131|40=>310|n=>n,fun|22=>111|23=>111|25=>3|32=>73|35=>323|36=>324|41=>81|44=>273|46=>276|53=>372|57=>376|63=>397|64=>126|n=>n,fun n=>n⟩
theorem sortA:SlLaysM.n5 Tryz.prog E7 where
 mixed:=k?
 f5:=⟨Tryz.f134.name,k?,Tryz.func134.trans (congrArg some k?)⟩
 f7:=⟨Tryz.f189.name,k?,Tryz.func189.trans (congrArg some k?)⟩
 f8:=Tryz.func190.trans (congrArg some k?)
 f10:=⟨Tryz.f232.name,k?,Tryz.func232.trans (congrArg some k?)⟩
 f11:=⟨Tryz.f233.name,k?,Tryz.func233.trans (congrArg some k?)⟩
 f12:=⟨Tryz.f234.name,k?,Tryz.func234.trans (congrArg some k?)⟩
 f13:=⟨Tryz.f235.name,k?,Tryz.func235.trans (congrArg some k?)⟩
 f14:=⟨Tryz.f236.name,k?,Tryz.func236.trans (congrArg some k?)⟩
 f15:=⟨Tryz.f237.name,k?,Tryz.func237.trans (congrArg some k?)⟩
 f16:=⟨Tryz.f238.name,k?,Tryz.func238.trans (congrArg some k?)⟩
 f17:=⟨Tryz.f239.name,k?,Tryz.func239.trans (congrArg some k?)⟩
 f18:=⟨Tryz.f240.name,k?,Tryz.func240.trans (congrArg some k?)⟩
 f19:=Tryz.func241.trans (congrArg some k?)
 f20:=Tryz.func242.trans (congrArg some k?)
 f30:=⟨Tryz.f275.name,k?,Tryz.func275.trans (congrArg some k?)⟩
 f31:=Tryz.func276.trans (congrArg some k?)
 f32:=Tryz.func277.trans (congrArg some k?)
 f33:=⟨Tryz.f278.name,k?,Tryz.func278.trans (congrArg some k?)⟩
 f34:=⟨Tryz.f279.name,k?,Tryz.func279.trans (congrArg some k?)⟩
 f35:=⟨Tryz.f131.name,k?,Tryz.func131.trans (congrArg some k?)⟩
 f40:=⟨Tryz.f310.name,k?,Tryz.func310.trans (congrArg some k?)⟩
 t0:=Tryz.underlying0
 a0:=Tryz.isAgg0
 z0:=Tryz.sizeOf0
 v0:=Tryz.zeroValue0
 t3:=Tryz.underlying3
 a3:=Tryz.isAgg3
 z3:=Tryz.sizeOf3
 v3:=Tryz.zeroValue3
 t4:=Tryz.underlying4
 a4:=Tryz.isAgg4
 z4:=Tryz.sizeOf4
 v4:=Tryz.zeroValue4
 t5:=Tryz.underlying5
 a5:=Tryz.isAgg5
 z5:=Tryz.sizeOf5
 v5:=Tryz.zeroValue5
 t9:=Tryz.underlying9
 a9:=Tryz.isAgg9
 z9:=Tryz.sizeOf9
 v9:=Tryz.zeroValue9
 t22:=Tryz.underlying111
 a22:=Tryz.isAgg111
 z22:=Tryz.sizeOf111
 v22:=Tryz.zeroValue111
 t23:=Tryz.underlying111
 a23:=Tryz.isAgg111
 z23:=Tryz.sizeOf111
 v23:=Tryz.zeroValue111
 t25:=Tryz.underlying3
 a25:=Tryz.isAgg3
 z25:=Tryz.sizeOf3
 v25:=Tryz.zeroValue3
 t32:=Tryz.underlying73
 a32:=Tryz.isAgg73
 z32:=Tryz.sizeOf73
 v32:=Tryz.zeroValue73
 t35:=Tryz.underlying323
 a35:=Tryz.isAgg323
 z35:=Tryz.sizeOf323
 v35:=Tryz.zeroValue323
 t36:=Tryz.underlying324
 a36:=Tryz.isAgg324
 z36:=Tryz.sizeOf324
 v36:=Tryz.zeroValue324
 t41:=Tryz.underlying81
 a41:=Tryz.isAgg81
 z41:=Tryz.sizeOf81
 v41:=Tryz.zeroValue81
 t44:=Tryz.underlying273
 a44:=Tryz.isAgg273
 z44:=Tryz.sizeOf273
 v44:=Tryz.zeroValue273
 t46:=Tryz.underlying276
 a46:=Tryz.isAgg276
 z46:=Tryz.sizeOf276
 v46:=Tryz.zeroValue276
 t53:=Tryz.underlying372
 a53:=Tryz.isAgg372
 z53:=Tryz.sizeOf372
 v53:=Tryz.zeroValue372
 t57:=Tryz.underlying376
 a57:=Tryz.isAgg376
 z57:=Tryz.sizeOf376
 v57:=Tryz.zeroValue376
 t63:=Tryz.underlying397
 a63:=Tryz.isAgg397
 z63:=Tryz.sizeOf397
 v63:=Tryz.zeroValue397
 t64:=Tryz.underlying126
 a64:=Tryz.isAgg126
 z64:=Tryz.sizeOf126
 v64:=Tryz.zeroValue126
theorem sortsA(m:Nat):AnyZI.SortsIn Tryz.prog JG Fence.wide m:=
 ⟨fun rB off cap ss W hH l6 mr=>callsIn_wide.2 (AnyM.slices_Sort_int sortA rB off cap ss W hH l6 mr),fun p cap W=>callsIn_wide.2 (AnyM.slices_Sort_int_none sortA p cap W)⟩
theorem MK(l b nn:Nat)(D0:DataW Unit)(w:World)(hl:l<w.heap.size)(hc:w.cell? ⟨l,0,none⟩=some (.map (some b)))(Ni:w.ownsMap Tryz.prog 3 (fun _=>some (.nil,[])) b nn D0)(hmax:Maps.size D0<=maxLen)(hbytes:Maps.size D0*8<=140737488355328):
  Calls Tryz.prog 85 #[.func (.func 135) #[] #[.pointer (some ⟨l,0,none⟩)]] w fun e w' => ∃(v:Value)(ss:List Int),e= .returned v/\ss.Perm (intKeys D0)/\
   w'.ownsRow w.heap.size 3 1 v ss.length ((ss.mergeSort (fun x y=>decide (x<=y))).map encZ)/\(v= .slice none 0 0↔ss=[])/\Below w.heap.size w w' :=by
 have hseq:SeqGives Fence.wide 2 Tryz.prog 135 #[.pointer (some ⟨l,0,none⟩)] encZ (fun ss=>ss.Perm (intKeys D0)) (Maps.size D0) w:=
  AnyZI.keys_gives (ρ:=YI) { keysA with } Fence.wide _ trivial rfl o? l b nn D0 w hl hc Ni
 have cS:=AnyZI.sorted_in sortedA Fence.wide 5 trivial trivial trivial trivial rfl o? (sortsA _) (enters_of Tryz.func134 k? rfl) 135 #[.pointer (some ⟨l,0,none⟩)] trivial (enters_of Tryz.func135 k? rfl) _ _ hmax hbytes _ hseq;exact(callsIn_wide (n:=5)).1 cS
def uK(args:List AV)(H:qr):Option (AV×qr):=V6 135 args H
theorem spS_ok{args:List AV}{H:qr}{r:AV}{H' :qr}(hg:uK args H=some (r,H')):enters Tryz.prog 85/\ln Tryz.prog 85 args H r H' :=by unfold uK at hg;exact ML (kt:=3) Tryz.underlying3 ⟨_,Tryz.func85,k?,k?⟩ MK hg
def KX:Go.Shelf.Ren:=⟨fun|240=>249|276=>290|n=>n,fun|37=>224|70=>287|72=>289|164=>381|n=>n,fun n=>n⟩
theorem OM:Lays.n240 Tryz.prog KX where
 mixed:=k?
 f240:=Tryz.func249.trans (congrArg some k?)
 f276:=Tryz.func290.trans (congrArg some k?)
 t0:=Tryz.underlying0
 a0:=Tryz.isAgg0
 z0:=Tryz.sizeOf0
 v0:=Tryz.zeroValue0
 t4:=Tryz.underlying4
 a4:=Tryz.isAgg4
 z4:=Tryz.sizeOf4
 v4:=Tryz.zeroValue4
 t9:=Tryz.underlying9
 a9:=Tryz.isAgg9
 z9:=Tryz.sizeOf9
 v9:=Tryz.zeroValue9
 t20:=Tryz.underlying20
 a20:=Tryz.isAgg20
 z20:=Tryz.sizeOf20
 v20:=Tryz.zeroValue20
 t70:=Tryz.underlying287
 a70:=Tryz.isAgg287
 z70:=Tryz.sizeOf287
 v70:=Tryz.zeroValue287
 t72:=Tryz.underlying289
 a72:=Tryz.isAgg289
 z72:=Tryz.sizeOf289
 v72:=Tryz.zeroValue289
 t164:=Tryz.underlying381
 a164:=Tryz.isAgg381
 z164:=Tryz.sizeOf381
 v164:=Tryz.zeroValue381
theorem ON:Builder.X72 Tryz.prog KX:=⟨k?,k?⟩
theorem spC_ok{args:List AV}{H:qr}{r:AV}{H' :qr}(hg:Ks 289 args H=some (r,H')):enters Tryz.prog 249/\ln Tryz.prog 249 args H r H' :=
 S1 ⟨_,Tryz.func249,k?,k?⟩ (fun b w h=>Any.Builder_copyCheck_used OM ON b w h) (fun b w h1 h2 h3=>Any.Builder_copyCheck_fresh OM ON b w h1 h2 h3) hg
def S:pj:=⟨fun f=>if f=85 then some uK else if f=249 then some (Ks 289)else none⟩
theorem S_ok:Qe Tryz.prog S:=fun f g h args H r H' hg=>by simp only[S]at h;split at h;rename_i hf;subst hf;cases h;exact spS_ok hg;split at h;rename_i hf;subst hf;cases h;exact spC_ok hg;cases h
noncomputable abbrev O:xm:=omega G S
end Go.Proofs.YtnojdepmnnebnaaGreat
set_option maxRecDepth 100000
namespace Go.Proofs.YtnojdepmnnebnaaGreat
open Go Go.Gm
structure qn where
 qB:Int
 to:Int
 deriving Inhabited,DecidableEq
def qn.enc(x:qn):List PV:=
 [n? q? x.qB,n? q? x.to]
theorem qn.qQ(x:qn):x.enc=[n? q? x.qB,n? q? x.to]:=rfl
def qn.ok(x:qn):Prop:=eV x.qB/\eV x.to/\True
structure ql where
 span:qn
 text:qa
 deriving Inhabited,DecidableEq
def ql.enc(x:ql):List PV:=
 [n? q? x.span.qB,n? q? x.span.to,C? x.text]
theorem ql.qQ(x:ql):x.enc=[n? q? x.span.qB,n? q? x.span.to,C? x.text]:=rfl
def ql.ok(x:ql):Prop:=qn.ok x.span/\m9 x.text/\True
structure qy where
 anchor:Int
 head:Int
 deriving Inhabited,DecidableEq
def qy.enc(x:qy):List PV:=
 [n? q? x.anchor,n? q? x.head]
theorem qy.qQ(x:qy):x.enc=[n? q? x.anchor,n? q? x.head]:=rfl
def qy.ok(x:qy):Prop:=eV x.anchor/\eV x.head/\True
structure qV where
 qB:qa
 to:qa
 deriving Inhabited,DecidableEq
def qV.enc(x:qV):List PV:=
 [C? x.qB,C? x.to]
theorem qV.qQ(x:qV):x.enc=[C? x.qB,C? x.to]:=rfl
def qV.ok(x:qV):Prop:=m9 x.qB/\m9 x.to/\True
structure qG where
 kind:Int
 char:qa
 not:Bool
 rows:(Sl qV)
 min:Int
 max:Int
 lazy:Bool
 qz:(Sl qG)
 deriving Inhabited
mutual
def qG.enc:qG->List PV
 |⟨x0,x1,x2,x3,x4,x5,x6,x7⟩=>[n? q? x0,C? x1,Z? x2,l? x3.nil (zV 2 x3.l) (w? qV.enc x3.l),n? q? x4,n? q? x5,Z? x6,qG.W1 x7]
def qG.W1:Sl qG->PV
 |⟨b,l⟩=> .sl b (zV 8 l) (qG.ZS l)
def qG.ZS:List qG->List (List PV)
 |[]=>[]
 |x::r=>x.enc::qG.ZS r
end
theorem qG.cD: ∀l:List qG,qG.ZS l=l.map qG.enc
 |[]=>rfl
 |x::r=>by simp[qG.ZS,qG.cD r]
theorem qG.ZT(s:Sl qG):qG.W1 s= .sl s.nil (zV 8 s.l) (s.l.map qG.enc):=by cases s;simp[qG.W1,qG.cD]
theorem qG.qQ(x:qG):x.enc=[n? q? x.kind,C? x.char,Z? x.not,l? x.rows.nil (zV 2 x.rows.l) (w? qV.enc x.rows.l),n? q? x.min,n? q? x.max,Z? x.lazy,l? x.qz.nil (zV 8 x.qz.l) (w? qG.enc x.qz.l)]:=by cases x;simp[qG.enc,qG.ZT]
mutual
def qG.ok:qG->Prop
 |⟨x0,x1,x2,x3,x4,x5,x6,x7⟩=>eV x0/\m9 x1/\bE x2/\(nH qV.ok) x3/\eV x4/\eV x5/\bE x6/\qG.okS x7/\True
def qG.okS:Sl qG->Prop
 |⟨b,l⟩=>(l.length<=maxLen/\(b=true->l=[]))/\qG.okL l
def qG.okL:List qG->Prop
 |[]=>True
 |x::r=>x.ok/\qG.okL r
end
structure zt where
 kind:Int
 n:Int
 Yo:Int
 lj:qa
 QD:qa
 deriving Inhabited,DecidableEq
def zt.enc(x:zt):List PV:=
 [n? q? x.kind,n? q? x.n,n? q? x.Yo,C? x.lj,C? x.QD]
theorem zt.qQ(x:zt):x.enc=[n? q? x.kind,n? q? x.n,n? q? x.Yo,C? x.lj,C? x.QD]:=rfl
def zt.ok(x:zt):Prop:=eV x.kind/\eV x.n/\eV x.Yo/\m9 x.lj/\m9 x.QD/\True
structure zn where
 rx:qG
 wy:(Sl zt)
 fold:Bool
 all:Bool
 deriving Inhabited
def zn.enc(x:zn):List PV:=
 [n? q? x.rx.kind,C? x.rx.char,Z? x.rx.not,l? x.rx.rows.nil (zV 2 x.rx.rows.l) (w? qV.enc x.rx.rows.l),n? q? x.rx.min,n? q? x.rx.max,Z? x.rx.lazy,l? x.rx.qz.nil (zV 8 x.rx.qz.l) (w? qG.enc x.rx.qz.l),l? x.wy.nil (zV 5 x.wy.l) (w? zt.enc x.wy.l),Z? x.fold,Z? x.all]
theorem zn.qQ(x:zn):x.enc=[n? q? x.rx.kind,C? x.rx.char,Z? x.rx.not,l? x.rx.rows.nil (zV 2 x.rx.rows.l) (w? qV.enc x.rx.rows.l),n? q? x.rx.min,n? q? x.rx.max,Z? x.rx.lazy,l? x.rx.qz.nil (zV 8 x.rx.qz.l) (w? qG.enc x.rx.qz.l),l? x.wy.nil (zV 5 x.wy.l) (w? zt.enc x.wy.l),Z? x.fold,Z? x.all]:=rfl
def zn.ok(x:zn):Prop:=qG.ok x.rx/\(nH zt.ok) x.wy/\bE x.fold/\bE x.all/\True
structure qq where
 span:qn
 n:Int
 up:Int
 first:Bool
 qL:Bool
 qR:zn
 opts:(Sl qa)
 deriving Inhabited
def qq.enc(x:qq):List PV:=
 [n? q? x.span.qB,n? q? x.span.to,n? q? x.n,n? q? x.up,Z? x.first,Z? x.qL,n? q? x.qR.rx.kind,C? x.qR.rx.char,Z? x.qR.rx.not,l? x.qR.rx.rows.nil (zV 2 x.qR.rx.rows.l) (w? qV.enc x.qR.rx.rows.l),n? q? x.qR.rx.min,n? q? x.qR.rx.max,Z? x.qR.rx.lazy,l? x.qR.rx.qz.nil (zV 8 x.qR.rx.qz.l) (w? qG.enc x.qR.rx.qz.l),l? x.qR.wy.nil (zV 5 x.qR.wy.l) (w? zt.enc x.qR.wy.l),Z? x.qR.fold,Z? x.qR.all,l? x.opts.nil (zV 1 x.opts.l) (w? ay x.opts.l)]
theorem qq.qQ(x:qq):x.enc=[n? q? x.span.qB,n? q? x.span.to,n? q? x.n,n? q? x.up,Z? x.first,Z? x.qL,n? q? x.qR.rx.kind,C? x.qR.rx.char,Z? x.qR.rx.not,l? x.qR.rx.rows.nil (zV 2 x.qR.rx.rows.l) (w? qV.enc x.qR.rx.rows.l),n? q? x.qR.rx.min,n? q? x.qR.rx.max,Z? x.qR.rx.lazy,l? x.qR.rx.qz.nil (zV 8 x.qR.rx.qz.l) (w? qG.enc x.qR.rx.qz.l),l? x.qR.wy.nil (zV 5 x.qR.wy.l) (w? zt.enc x.qR.wy.l),Z? x.qR.fold,Z? x.qR.all,l? x.opts.nil (zV 1 x.opts.l) (w? ay x.opts.l)]:=rfl
def qq.ok(x:qq):Prop:=qn.ok x.span/\eV x.n/\eV x.up/\bE x.first/\bE x.qL/\zn.ok x.qR/\(nH m9) x.opts/\True
structure qj where
 span:qn
 stops:(Sl qq)
 deriving Inhabited
def qj.enc(x:qj):List PV:=
 [n? q? x.span.qB,n? q? x.span.to,l? x.stops.nil (zV 18 x.stops.l) (w? qq.enc x.stops.l)]
theorem qj.qQ(x:qj):x.enc=[n? q? x.span.qB,n? q? x.span.to,l? x.stops.nil (zV 18 x.stops.l) (w? qq.enc x.stops.l)]:=rfl
def qj.ok(x:qj):Prop:=qn.ok x.span/\(nH qq.ok) x.stops/\True
structure qb where
 cur:Int
 insts:(Sl qj)
 deriving Inhabited
def qb.enc(x:qb):List PV:=
 [n? q? x.cur,l? x.insts.nil (zV 3 x.insts.l) (w? qj.enc x.insts.l)]
theorem qb.qQ(x:qb):x.enc=[n? q? x.cur,l? x.insts.nil (zV 3 x.insts.l) (w? qj.enc x.insts.l)]:=rfl
def qb.ok(x:qb):Prop:=eV x.cur/\(nH qj.ok) x.insts/\True
structure qv where
 text:qa
 xT:(Sl qy)
 qo:(Sl qb)
 deriving Inhabited
def qv.enc(x:qv):List PV:=
 [C? x.text,l? x.xT.nil (zV 2 x.xT.l) (w? qy.enc x.xT.l),l? x.qo.nil (zV 2 x.qo.l) (w? qb.enc x.qo.l)]
theorem qv.qQ(x:qv):x.enc=[C? x.text,l? x.xT.nil (zV 2 x.xT.l) (w? qy.enc x.xT.l),l? x.qo.nil (zV 2 x.qo.l) (w? qb.enc x.qo.l)]:=rfl
def qv.ok(x:qv):Prop:=m9 x.text/\(nH qy.ok) x.xT/\(nH qb.ok) x.qo/\True
structure bO where
 kind:Int
 name:qa
 text:qa
 n:Int
 extend:Bool
 edits:(Sl ql)
 xT:(Sl qy)
 deriving Inhabited,DecidableEq
def bO.enc(x:bO):List PV:=
 [n? q? x.kind,C? x.name,C? x.text,n? q? x.n,Z? x.extend,l? x.edits.nil (zV 3 x.edits.l) (w? ql.enc x.edits.l),l? x.xT.nil (zV 2 x.xT.l) (w? qy.enc x.xT.l)]
theorem bO.qQ(x:bO):x.enc=[n? q? x.kind,C? x.name,C? x.text,n? q? x.n,Z? x.extend,l? x.edits.nil (zV 3 x.edits.l) (w? ql.enc x.edits.l),l? x.xT.nil (zV 2 x.xT.l) (w? qy.enc x.xT.l)]:=rfl
def bO.ok(x:bO):Prop:=eV x.kind/\m9 x.name/\m9 x.text/\eV x.n/\bE x.extend/\(nH ql.ok) x.edits/\(nH qy.ok) x.xT/\True
structure qw where
 name:qa
 value:qa
 deriving Inhabited,DecidableEq
def qw.enc(x:qw):List PV:=
 [C? x.name,C? x.value]
theorem qw.qQ(x:qw):x.enc=[C? x.name,C? x.value]:=rfl
def qw.ok(x:qw):Prop:=m9 x.name/\m9 x.value/\True
structure zy where
 st:qv
 env:(Sl qw)
 behind:(Sl qv)
 ahead:(Sl qv)
 deriving Inhabited
def zy.enc(x:zy):List PV:=
 [C? x.st.text,l? x.st.xT.nil (zV 2 x.st.xT.l) (w? qy.enc x.st.xT.l),l? x.st.qo.nil (zV 2 x.st.qo.l) (w? qb.enc x.st.qo.l),l? x.env.nil (zV 2 x.env.l) (w? qw.enc x.env.l),l? x.behind.nil (zV 3 x.behind.l) (w? qv.enc x.behind.l),l? x.ahead.nil (zV 3 x.ahead.l) (w? qv.enc x.ahead.l)]
theorem zy.qQ(x:zy):x.enc=[C? x.st.text,l? x.st.xT.nil (zV 2 x.st.xT.l) (w? qy.enc x.st.xT.l),l? x.st.qo.nil (zV 2 x.st.qo.l) (w? qb.enc x.st.qo.l),l? x.env.nil (zV 2 x.env.l) (w? qw.enc x.env.l),l? x.behind.nil (zV 3 x.behind.l) (w? qv.enc x.behind.l),l? x.ahead.nil (zV 3 x.ahead.l) (w? qv.enc x.ahead.l)]:=rfl
def zy.ok(x:zy):Prop:=qv.ok x.st/\(nH qw.ok) x.env/\(nH qv.ok) x.behind/\(nH qv.ok) x.ahead/\True
structure qN where
 id:Int
 held:Bool
 deriving Inhabited,DecidableEq
def qN.enc(x:qN):List PV:=
 [n? q? x.id,Z? x.held]
theorem qN.qQ(x:qN):x.enc=[n? q? x.id,Z? x.held]:=rfl
def qN.ok(x:qN):Prop:=eV x.id/\bE x.held/\True
structure zh where
 nG:qb
 marks:(Sl (Sl qN))
 deriving Inhabited
def zh.enc(x:zh):List PV:=
 [n? q? x.nG.cur,l? x.nG.insts.nil (zV 3 x.nG.insts.l) (w? qj.enc x.nG.insts.l),l? x.marks.nil (zV 1 x.marks.l) (w? (mz 2 qN.enc) x.marks.l)]
theorem zh.qQ(x:zh):x.enc=[n? q? x.nG.cur,l? x.nG.insts.nil (zV 3 x.nG.insts.l) (w? qj.enc x.nG.insts.l),l? x.marks.nil (zV 1 x.marks.l) (w? (mz 2 qN.enc) x.marks.l)]:=rfl
def zh.ok(x:zh):Prop:=qb.ok x.nG/\(nH (nH qN.ok)) x.marks/\True
structure zK where
 e:ql
 jy:(Sl (Sl Int))
 inst:Int
 qY:Int
 deriving Inhabited,DecidableEq
def zK.enc(x:zK):List PV:=
 [n? q? x.e.span.qB,n? q? x.e.span.to,C? x.e.text,l? x.jy.nil (zV 1 x.jy.l) (w? (mz 1 zL) x.jy.l),n? q? x.inst,n? q? x.qY]
theorem zK.qQ(x:zK):x.enc=[n? q? x.e.span.qB,n? q? x.e.span.to,C? x.e.text,l? x.jy.nil (zV 1 x.jy.l) (w? (mz 1 zL) x.jy.l),n? q? x.inst,n? q? x.qY]:=rfl
def zK.ok(x:zK):Prop:=ql.ok x.e/\(nH (nH eV)) x.jy/\eV x.inst/\eV x.qY/\True
structure jG where
 text:qa
 xT:(Sl qy)
 qo:(Sl zh)
 deriving Inhabited
def jG.enc(x:jG):List PV:=
 [C? x.text,l? x.xT.nil (zV 2 x.xT.l) (w? qy.enc x.xT.l),l? x.qo.nil (zV 3 x.qo.l) (w? zh.enc x.qo.l)]
theorem jG.qQ(x:jG):x.enc=[C? x.text,l? x.xT.nil (zV 2 x.xT.l) (w? qy.enc x.xT.l),l? x.qo.nil (zV 3 x.qo.l) (w? zh.enc x.qo.l)]:=rfl
def jG.ok(x:jG):Prop:=m9 x.text/\(nH qy.ok) x.xT/\(nH zh.ok) x.qo/\True
structure zP where
 st:qv
 fl:(Sl (Sl (Sl Int)))
 deriving Inhabited
def zP.enc(x:zP):List PV:=
 [C? x.st.text,l? x.st.xT.nil (zV 2 x.st.xT.l) (w? qy.enc x.st.xT.l),l? x.st.qo.nil (zV 2 x.st.qo.l) (w? qb.enc x.st.qo.l),l? x.fl.nil (zV 1 x.fl.l) (w? (mz 1 (mz 1 zL)) x.fl.l)]
theorem zP.qQ(x:zP):x.enc=[C? x.st.text,l? x.st.xT.nil (zV 2 x.st.xT.l) (w? qy.enc x.st.xT.l),l? x.st.qo.nil (zV 2 x.st.qo.l) (w? qb.enc x.st.qo.l),l? x.fl.nil (zV 1 x.fl.l) (w? (mz 1 (mz 1 zL)) x.fl.l)]:=rfl
def zP.ok(x:zP):Prop:=qv.ok x.st/\(nH (nH (nH eV))) x.fl/\True
structure qD where
 kind:Int
 text:qa
 n:Int
 has:Bool
 qL:Bool
 qR:zn
 opts:(Sl qa)
 qz:(Sl qD)
 deriving Inhabited
mutual
def qD.enc:qD->List PV
 |⟨x0,x1,x2,x3,x4,x5,x6,x7⟩=>[n? q? x0,C? x1,n? q? x2,Z? x3,Z? x4,n? q? x5.rx.kind,C? x5.rx.char,Z? x5.rx.not,l? x5.rx.rows.nil (zV 2 x5.rx.rows.l) (w? qV.enc x5.rx.rows.l),n? q? x5.rx.min,n? q? x5.rx.max,Z? x5.rx.lazy,l? x5.rx.qz.nil (zV 8 x5.rx.qz.l) (w? qG.enc x5.rx.qz.l),l? x5.wy.nil (zV 5 x5.wy.l) (w? zt.enc x5.wy.l),Z? x5.fold,Z? x5.all,l? x6.nil (zV 1 x6.l) (w? ay x6.l),qD.W1 x7]
def qD.W1:Sl qD->PV
 |⟨b,l⟩=> .sl b (zV 18 l) (qD.ZS l)
def qD.ZS:List qD->List (List PV)
 |[]=>[]
 |x::r=>x.enc::qD.ZS r
end
theorem qD.cD: ∀l:List qD,qD.ZS l=l.map qD.enc
 |[]=>rfl
 |x::r=>by simp[qD.ZS,qD.cD r]
theorem qD.ZT(s:Sl qD):qD.W1 s= .sl s.nil (zV 18 s.l) (s.l.map qD.enc):=by cases s;simp[qD.W1,qD.cD]
theorem qD.qQ(x:qD):x.enc=[n? q? x.kind,C? x.text,n? q? x.n,Z? x.has,Z? x.qL,n? q? x.qR.rx.kind,C? x.qR.rx.char,Z? x.qR.rx.not,l? x.qR.rx.rows.nil (zV 2 x.qR.rx.rows.l) (w? qV.enc x.qR.rx.rows.l),n? q? x.qR.rx.min,n? q? x.qR.rx.max,Z? x.qR.rx.lazy,l? x.qR.rx.qz.nil (zV 8 x.qR.rx.qz.l) (w? qG.enc x.qR.rx.qz.l),l? x.qR.wy.nil (zV 5 x.qR.wy.l) (w? zt.enc x.qR.wy.l),Z? x.qR.fold,Z? x.qR.all,l? x.opts.nil (zV 1 x.opts.l) (w? ay x.opts.l),l? x.qz.nil (zV 18 x.qz.l) (w? qD.enc x.qz.l)]:=by cases x;simp[qD.enc,qD.ZT]
mutual
def qD.ok:qD->Prop
 |⟨x0,x1,x2,x3,x4,x5,x6,x7⟩=>eV x0/\m9 x1/\eV x2/\bE x3/\bE x4/\zn.ok x5/\(nH m9) x6/\qD.okS x7/\True
def qD.okS:Sl qD->Prop
 |⟨b,l⟩=>(l.length<=maxLen/\(b=true->l=[]))/\qD.okL l
def qD.okL:List qD->Prop
 |[]=>True
 |x::r=>x.ok/\qD.okL r
end
structure zG where
 s:qa
 what:(Sl qD)
 vH:(Sl Int)
 deriving Inhabited
def zG.enc(x:zG):List PV:=
 [C? x.s,l? x.what.nil (zV 18 x.what.l) (w? qD.enc x.what.l),l? x.vH.nil (zV 1 x.vH.l) (w? zL x.vH.l)]
theorem zG.qQ(x:zG):x.enc=[C? x.s,l? x.what.nil (zV 18 x.what.l) (w? qD.enc x.what.l),l? x.vH.nil (zV 1 x.vH.l) (w? zL x.vH.l)]:=rfl
def zG.ok(x:zG):Prop:=m9 x.s/\(nH qD.ok) x.what/\(nH eV) x.vH/\True
structure jH where
 span:qn
 parts:(Sl qn)
 deriving Inhabited,DecidableEq
def jH.enc(x:jH):List PV:=
 [n? q? x.span.qB,n? q? x.span.to,l? x.parts.nil (zV 2 x.parts.l) (w? qn.enc x.parts.l)]
theorem jH.qQ(x:jH):x.enc=[n? q? x.span.qB,n? q? x.span.to,l? x.parts.nil (zV 2 x.parts.l) (w? qn.enc x.parts.l)]:=rfl
def jH.ok(x:jH):Prop:=qn.ok x.span/\(nH qn.ok) x.parts/\True
structure qW where
 bytes:Int
 breaks:Int
 ar:Int
 dA:Int
 deriving Inhabited,DecidableEq
def qW.enc(x:qW):List PV:=
 [n? q? x.bytes,n? q? x.breaks,n? q? x.ar,n? q? x.dA]
theorem qW.qQ(x:qW):x.enc=[n? q? x.bytes,n? q? x.breaks,n? q? x.ar,n? q? x.dA]:=rfl
def qW.ok(x:qW):Prop:=eV x.bytes/\eV x.breaks/\eV x.ar/\eV x.dA/\True
structure qc where
 kind:Int
 text:qa
 n:Int
 xZ:Bool
 first:Bool
 qL:Bool
 qR:zn
 opts:(Sl qa)
 up:Int
 end_:Int
 deriving Inhabited
def qc.enc(x:qc):List PV:=
 [n? q? x.kind,C? x.text,n? q? x.n,Z? x.xZ,Z? x.first,Z? x.qL,n? q? x.qR.rx.kind,C? x.qR.rx.char,Z? x.qR.rx.not,l? x.qR.rx.rows.nil (zV 2 x.qR.rx.rows.l) (w? qV.enc x.qR.rx.rows.l),n? q? x.qR.rx.min,n? q? x.qR.rx.max,Z? x.qR.rx.lazy,l? x.qR.rx.qz.nil (zV 8 x.qR.rx.qz.l) (w? qG.enc x.qR.rx.qz.l),l? x.qR.wy.nil (zV 5 x.qR.wy.l) (w? zt.enc x.qR.wy.l),Z? x.qR.fold,Z? x.qR.all,l? x.opts.nil (zV 1 x.opts.l) (w? ay x.opts.l),n? q? x.up,n? q? x.end_]
theorem qc.qQ(x:qc):x.enc=[n? q? x.kind,C? x.text,n? q? x.n,Z? x.xZ,Z? x.first,Z? x.qL,n? q? x.qR.rx.kind,C? x.qR.rx.char,Z? x.qR.rx.not,l? x.qR.rx.rows.nil (zV 2 x.qR.rx.rows.l) (w? qV.enc x.qR.rx.rows.l),n? q? x.qR.rx.min,n? q? x.qR.rx.max,Z? x.qR.rx.lazy,l? x.qR.rx.qz.nil (zV 8 x.qR.rx.qz.l) (w? qG.enc x.qR.rx.qz.l),l? x.qR.wy.nil (zV 5 x.qR.wy.l) (w? zt.enc x.qR.wy.l),Z? x.qR.fold,Z? x.qR.all,l? x.opts.nil (zV 1 x.opts.l) (w? ay x.opts.l),n? q? x.up,n? q? x.end_]:=rfl
def qc.ok(x:qc):Prop:=eV x.kind/\m9 x.text/\eV x.n/\bE x.xZ/\bE x.first/\bE x.qL/\zn.ok x.qR/\(nH m9) x.opts/\eV x.up/\eV x.end_/\True
structure zX where
 env:(Sl qw)
 lead:qa
 unit:qa
 parts:(Sl qc)
 defs:(Sl Int)
 names:(Sl qa)
 deriving Inhabited
def zX.enc(x:zX):List PV:=
 [l? x.env.nil (zV 2 x.env.l) (w? qw.enc x.env.l),C? x.lead,C? x.unit,l? x.parts.nil (zV 20 x.parts.l) (w? qc.enc x.parts.l),l? x.defs.nil (zV 1 x.defs.l) (w? zL x.defs.l),l? x.names.nil (zV 1 x.names.l) (w? ay x.names.l)]
theorem zX.qQ(x:zX):x.enc=[l? x.env.nil (zV 2 x.env.l) (w? qw.enc x.env.l),C? x.lead,C? x.unit,l? x.parts.nil (zV 20 x.parts.l) (w? qc.enc x.parts.l),l? x.defs.nil (zV 1 x.defs.l) (w? zL x.defs.l),l? x.names.nil (zV 1 x.names.l) (w? ay x.names.l)]:=rfl
def zX.ok(x:zX):Prop:=(nH qw.ok) x.env/\m9 x.lead/\m9 x.unit/\(nH qc.ok) x.parts/\(nH eV) x.defs/\(nH m9) x.names/\True
structure zW where
 ns:(Sl Int)
 ts:(Sl qa)
 deriving Inhabited,DecidableEq
def zW.enc(x:zW):List PV:=
 [l? x.ns.nil (zV 1 x.ns.l) (w? zL x.ns.l),l? x.ts.nil (zV 1 x.ts.l) (w? ay x.ts.l)]
theorem zW.qQ(x:zW):x.enc=[l? x.ns.nil (zV 1 x.ns.l) (w? zL x.ns.l),l? x.ts.nil (zV 1 x.ts.l) (w? ay x.ts.l)]:=rfl
def zW.ok(x:zW):Prop:=(nH eV) x.ns/\(nH m9) x.ts/\True
structure qP where
 rx:qG
 qz:(Sl qP)
 lo:Int
 hi:Int
 deriving Inhabited
mutual
def qP.enc:qP->List PV
 |⟨x0,x1,x2,x3⟩=>[n? q? x0.kind,C? x0.char,Z? x0.not,l? x0.rows.nil (zV 2 x0.rows.l) (w? qV.enc x0.rows.l),n? q? x0.min,n? q? x0.max,Z? x0.lazy,l? x0.qz.nil (zV 8 x0.qz.l) (w? qG.enc x0.qz.l),qP.W1 x1,n? q? x2,n? q? x3]
def qP.W1:Sl qP->PV
 |⟨b,l⟩=> .sl b (zV 11 l) (qP.ZS l)
def qP.ZS:List qP->List (List PV)
 |[]=>[]
 |x::r=>x.enc::qP.ZS r
end
theorem qP.cD: ∀l:List qP,qP.ZS l=l.map qP.enc
 |[]=>rfl
 |x::r=>by simp[qP.ZS,qP.cD r]
theorem qP.ZT(s:Sl qP):qP.W1 s= .sl s.nil (zV 11 s.l) (s.l.map qP.enc):=by cases s;simp[qP.W1,qP.cD]
theorem qP.qQ(x:qP):x.enc=[n? q? x.rx.kind,C? x.rx.char,Z? x.rx.not,l? x.rx.rows.nil (zV 2 x.rx.rows.l) (w? qV.enc x.rx.rows.l),n? q? x.rx.min,n? q? x.rx.max,Z? x.rx.lazy,l? x.rx.qz.nil (zV 8 x.rx.qz.l) (w? qG.enc x.rx.qz.l),l? x.qz.nil (zV 11 x.qz.l) (w? qP.enc x.qz.l),n? q? x.lo,n? q? x.hi]:=by cases x;simp[qP.enc,qP.ZT]
mutual
def qP.ok:qP->Prop
 |⟨x0,x1,x2,x3⟩=>qG.ok x0/\qP.okS x1/\eV x2/\eV x3/\True
def qP.okS:Sl qP->Prop
 |⟨b,l⟩=>(l.length<=maxLen/\(b=true->l=[]))/\qP.okL l
def qP.okL:List qP->Prop
 |[]=>True
 |x::r=>x.ok/\qP.okL r
end
structure wk where
 top:qP
 fold:Bool
 chars:(Sl qa)
 places:(Sl Int)
 parts:(Sl qn)
 fuel:Int
 out:Bool
 deriving Inhabited
def wk.enc(x:wk):List PV:=
 [n? q? x.top.rx.kind,C? x.top.rx.char,Z? x.top.rx.not,l? x.top.rx.rows.nil (zV 2 x.top.rx.rows.l) (w? qV.enc x.top.rx.rows.l),n? q? x.top.rx.min,n? q? x.top.rx.max,Z? x.top.rx.lazy,l? x.top.rx.qz.nil (zV 8 x.top.rx.qz.l) (w? qG.enc x.top.rx.qz.l),l? x.top.qz.nil (zV 11 x.top.qz.l) (w? qP.enc x.top.qz.l),n? q? x.top.lo,n? q? x.top.hi,Z? x.fold,l? x.chars.nil (zV 1 x.chars.l) (w? ay x.chars.l),l? x.places.nil (zV 1 x.places.l) (w? zL x.places.l),l? x.parts.nil (zV 2 x.parts.l) (w? qn.enc x.parts.l),n? q? x.fuel,Z? x.out]
theorem wk.qQ(x:wk):x.enc=[n? q? x.top.rx.kind,C? x.top.rx.char,Z? x.top.rx.not,l? x.top.rx.rows.nil (zV 2 x.top.rx.rows.l) (w? qV.enc x.top.rx.rows.l),n? q? x.top.rx.min,n? q? x.top.rx.max,Z? x.top.rx.lazy,l? x.top.rx.qz.nil (zV 8 x.top.rx.qz.l) (w? qG.enc x.top.rx.qz.l),l? x.top.qz.nil (zV 11 x.top.qz.l) (w? qP.enc x.top.qz.l),n? q? x.top.lo,n? q? x.top.hi,Z? x.fold,l? x.chars.nil (zV 1 x.chars.l) (w? ay x.chars.l),l? x.places.nil (zV 1 x.places.l) (w? zL x.places.l),l? x.parts.nil (zV 2 x.parts.l) (w? qn.enc x.parts.l),n? q? x.fuel,Z? x.out]:=rfl
def wk.ok(x:wk):Prop:=qP.ok x.top/\bE x.fold/\(nH m9) x.chars/\(nH eV) x.places/\(nH qn.ok) x.parts/\eV x.fuel/\bE x.out/\True
structure qk where
 span:qn
 parts:(Sl qn)
 deriving Inhabited,DecidableEq
def qk.enc(x:qk):List PV:=
 [n? q? x.span.qB,n? q? x.span.to,l? x.parts.nil (zV 2 x.parts.l) (w? qn.enc x.parts.l)]
theorem qk.qQ(x:qk):x.enc=[n? q? x.span.qB,n? q? x.span.to,l? x.parts.nil (zV 2 x.parts.l) (w? qn.enc x.parts.l)]:=rfl
def qk.ok(x:qk):Prop:=qn.ok x.span/\(nH qn.ok) x.parts/\True
structure qd where
 cs:(Sl qa)
 qp:Int
 deriving Inhabited,DecidableEq
def qd.enc(x:qd):List PV:=
 [l? x.cs.nil (zV 1 x.cs.l) (w? ay x.cs.l),n? q? x.qp]
theorem qd.qQ(x:qd):x.enc=[l? x.cs.nil (zV 1 x.cs.l) (w? ay x.cs.l),n? q? x.qp]:=rfl
def qd.ok(x:qd):Prop:=(nH m9) x.cs/\eV x.qp/\True
structure qC where
 span:qn
 up:Int
 deriving Inhabited,DecidableEq
def qC.enc(x:qC):List PV:=
 [n? q? x.span.qB,n? q? x.span.to,n? q? x.up]
theorem qC.qQ(x:qC):x.enc=[n? q? x.span.qB,n? q? x.span.to,n? q? x.up]:=rfl
def qC.ok(x:qC):Prop:=qn.ok x.span/\eV x.up/\True
structure qf where
 cs:(Sl qa)
 wz:(Sl Int)
 fold:Bool
 fuel:Int
 out:Bool
 deriving Inhabited,DecidableEq
def qf.enc(x:qf):List PV:=
 [l? x.cs.nil (zV 1 x.cs.l) (w? ay x.cs.l),l? x.wz.nil (zV 1 x.wz.l) (w? zL x.wz.l),Z? x.fold,n? q? x.fuel,Z? x.out]
theorem qf.qQ(x:qf):x.enc=[l? x.cs.nil (zV 1 x.cs.l) (w? ay x.cs.l),l? x.wz.nil (zV 1 x.wz.l) (w? zL x.wz.l),Z? x.fold,n? q? x.fuel,Z? x.out]:=rfl
def qf.ok(x:qf):Prop:=(nH m9) x.cs/\(nH eV) x.wz/\bE x.fold/\eV x.fuel/\bE x.out/\True
structure qe where
 kind:Int
 x:qG
 g:Int
 many:Int
 qB:Int
 rest:(Option qe)
 deriving Inhabited
mutual
def qe.enc:qe->List PV
 |⟨x0,x1,x2,x3,x4,x5⟩=>[n? q? x0,n? q? x1.kind,C? x1.char,Z? x1.not,l? x1.rows.nil (zV 2 x1.rows.l) (w? qV.enc x1.rows.l),n? q? x1.min,n? q? x1.max,Z? x1.lazy,l? x1.qz.nil (zV 8 x1.qz.l) (w? qG.enc x1.qz.l),n? q? x2,n? q? x3,n? q? x4,qe.cE x5]
def qe.cE:Option qe->PV
 |none=> .yd
 |some x=> .rp x.enc
end
theorem qe.Ys:qe.cE none= .yd:=by simp[qe.cE]
theorem qe.Yt(x:qe):qe.cE (some x)= .rp x.enc:=by simp[qe.cE]
theorem qe.SB(k:Option qe)(H:qr):di .ptr (.pv (qe.cE k)) H=some k.isNone:=by cases k<;>simp[qe.cE,di]
theorem qe.BM(k:Option qe):u! (.pv (qe.cE k))=[.pv (qe.cE k)]:=by cases k<;>simp[qe.cE,u!]
theorem qe.qQ(x:qe):x.enc=[n? q? x.kind,n? q? x.x.kind,C? x.x.char,Z? x.x.not,l? x.x.rows.nil (zV 2 x.x.rows.l) (w? qV.enc x.x.rows.l),n? q? x.x.min,n? q? x.x.max,Z? x.x.lazy,l? x.x.qz.nil (zV 8 x.x.qz.l) (w? qG.enc x.x.qz.l),n? q? x.g,n? q? x.many,n? q? x.qB,qe.cE x.rest]:=by cases x;simp[qe.enc]
def qe.ok(_:qe):Prop:=True
def aw5:Option Bool:=some true
theorem K2{α:Type}{u0 u1 u2 u3 u4 u5 u6:Bool}{p q:Option α}{r:α}{P:Prop}(f:((u0=true/\u1=true/\aC/\aC/\aC/\aC/\aC)\/(u0=false/\aC/\u2=true/\u3=true/\aC/\aC/\aC)\/(u0=false/\aC/\u2=false/\aC/\u4=true/\u5=true/\aC)\/(u0=false/\aC/\u2=false/\aC/\u4=false/\aC/\u6=true)\/(u0=false/\aC/\u2=false/\aC/\u4=true/\u5=false/\u6=true)\/(u0=false/\aC/\u2=true/\u3=false/\u4=true/\u5=true/\aC)\/(u0=false/\aC/\u2=true/\u3=false/\u4=false/\aC/\u6=true)\/(u0=false/\aC/\u2=true/\u3=false/\u4=true/\u5=false/\u6=true)\/(u0=true/\u1=false/\u2=true/\u3=true/\aC/\aC/\aC)\/(u0=true/\u1=false/\u2=false/\aC/\u4=true/\u5=true/\aC)\/(u0=true/\u1=false/\u2=false/\aC/\u4=false/\aC/\u6=true)\/(u0=true/\u1=false/\u2=false/\aC/\u4=true/\u5=false/\u6=true)\/(u0=true/\u1=false/\u2=true/\u3=false/\u4=true/\u5=true/\aC)\/(u0=true/\u1=false/\u2=true/\u3=false/\u4=false/\aC/\u6=true)\/(u0=true/\u1=false/\u2=true/\u3=false/\u4=true/\u5=false/\u6=true))->p=some r->P)(g:((u0=false/\aC/\u2=false/\aC/\u4=false/\aC/\u6=false)\/(u0=false/\aC/\u2=false/\aC/\u4=true/\u5=false/\u6=false)\/(u0=false/\aC/\u2=true/\u3=false/\u4=false/\aC/\u6=false)\/(u0=false/\aC/\u2=true/\u3=false/\u4=true/\u5=false/\u6=false)\/(u0=true/\u1=false/\u2=false/\aC/\u4=false/\aC/\u6=false)\/(u0=true/\u1=false/\u2=false/\aC/\u4=true/\u5=false/\u6=false)\/(u0=true/\u1=false/\u2=true/\u3=false/\u4=false/\aC/\u6=false)\/(u0=true/\u1=false/\u2=true/\u3=false/\u4=true/\u5=false/\u6=false))->q=some r->P)(h:(if ((u0&&u1) || ((u2&&u3) || ((u4&&u5) || u6)))=true then p else q)=some r):P:=by cases u0<;>cases u1<;>cases u2<;>cases u3<;>cases u4<;>cases u5<;>cases u6<;>simp_all [aC]
theorem slot_0(s:St):bD s 0=s.env.get 0:=rfl
theorem slot_1(s:St):bD s 1=s.env.get 1:=rfl
theorem slot_2(s:St):bD s 2=s.env.get 2:=rfl
theorem slot_3(s:St):bD s 3=s.env.get 3:=rfl
theorem slot_4(s:St):bD s 4=s.env.get 4:=rfl
theorem slot_14(s:St):bD s 14=s.env.get 14:=rfl
theorem slot_19(s:St):bD s 19=s.env.get 19:=rfl
theorem slot_20(s:St):bD s 20=s.env.get 20:=rfl
theorem slot_21(s:St):bD s 21=s.env.get 21:=rfl
theorem E0(s:St):bD s 2003=match s.env.get 3 with| .ptr b o=>(match s.heap.get b with|some (.box c)=>(match c[o+1]? with|some v=>v|none=> .undef)|_=> .undef)|_=> .undef:=rfl
theorem E1(s:St):bD s 3000=match s.env.get 0 with| .ptr b o=>(match s.heap.get b with|some (.box c)=>(match c[o+2]? with|some v=>v|none=> .undef)|_=> .undef)|_=> .undef:=rfl
theorem E2(s:St):bD s 4000=match s.env.get 0 with| .ptr b o=>(match s.heap.get b with|some (.box c)=>(match c[o+3]? with|some v=>v|none=> .undef)|_=> .undef)|_=> .undef:=rfl
theorem E3(s:St):bD s 4003=match s.env.get 3 with| .ptr b o=>(match s.heap.get b with|some (.box c)=>(match c[o+3]? with|some v=>v|none=> .undef)|_=> .undef)|_=> .undef:=rfl
theorem E4(s:St):bD s 4011=match s.env.get 11 with| .ptr b o=>(match s.heap.get b with|some (.box c)=>(match c[o+3]? with|some v=>v|none=> .undef)|_=> .undef)|_=> .undef:=rfl
theorem E5(s:St):bD s 5000=match s.env.get 0 with| .ptr b o=>(match s.heap.get b with|some (.box c)=>(match c[o+4]? with|some v=>v|none=> .undef)|_=> .undef)|_=> .undef:=rfl
theorem E6(s:St):bD s 6000=match s.env.get 0 with| .ptr b o=>(match s.heap.get b with|some (.box c)=>(match c[o+5]? with|some v=>v|none=> .undef)|_=> .undef)|_=> .undef:=rfl
theorem natA(n:Nat):0+n=n:=Nat.zero_add n
def en:=PLift.up (g? (g? (g? (g? (g? encx.down (g? wordx.down @natA)) (g? @Int.cast_ofNat_Int (g? @List.append_nil.{0} @List.nil_append.{0}))) (g? (g? @q1h.{0} (g? @List.map_append.{0,0} @List.map_cons.{0,0})) (g? (g? @List.map_nil.{0,0} @W_.{0,0}) (g? @List.length_append.{0} @h?.{0})))) (g? (g? (g? @List.length_nil.{0} (g? @List.length_map.{0,0} @qn.qQ)) (g? @ql.qQ (g? @qy.qQ @qV.qQ))) (g? (g? @qG.qQ (g? @zt.qQ @zn.qQ)) (g? (g? @qq.qQ @qj.qQ) (g? @qb.qQ @qv.qQ))))) (g? (g? (g? (g? @bO.qQ (g? @qw.qQ @zy.qQ)) (g? @qN.qQ (g? @zh.qQ @zK.qQ))) (g? (g? @jG.qQ (g? @zP.qQ @qD.qQ)) (g? (g? @zG.qQ @jH.qQ) (g? @qW.qQ @qc.qQ)))) (g? (g? (g? @zX.qQ (g? @zW.qQ @qP.qQ)) (g? @wk.qQ (g? @qk.qQ @qd.qQ))) (g? (g? @qC.qQ (g? @qf.qQ @qe.SB)) (g? (g? @qe.BM @qe.Ys) (g? @qe.Yt @qe.qQ))))))
end Go.Proofs.YtnojdepmnnebnaaGreat
