/-
  The machine of this program: what it knows of calls that it does not run.
-/
import Derived.Test.YtmllebdamdnhoaaGreatAac
import Derived.Test.YtmllebdamdnhoaaGreatRows
import Derived.Shelf.SlIterI.Nil
import Derived.Shelf.SortM.Plain
import Derived.Shelf.SortM.SortNone
import Derived.Shelf.Lays
import Derived.Shelf.Strings.Builder1
import Derived.Shelf.Strings.BuilderX
set_option linter.unusedSimpArgs false
set_option linter.unusedVariables false
namespace Go.Gm
open Go
abbrev qa:=List UInt8
structure Sl (α:Type) where
 nil:Bool
 l:List α
 deriving Inhabited,DecidableEq
def dF(s:qa):List PV:=[.str s]
def zX(n:Int):List PV:=[.int .i64 n]
def kE(k:IntKind)(n:Int):List PV:=[.int k n]
def Hy(b:Bool):List PV:=[.bool b]
def Zw(b:UInt8):List PV:=[.int .u8 b.toNat]
def ng{α:Type}(k:Nat)(e:α->List PV)(s:Sl α):List PV:=[.sl s.nil (zC k s.l) (List.map e s.l)]
def Ae{α:Type}(e:α->List PV)(s:α×α):List PV:=e s.1++e s.2
abbrev dH:Prop:= ∀x:Bool,(x&&true)=x
def qi{α:Type}(l:List α)(i:Int):Option α:=if 0<=i then l[i.toNat]? else none
def kb{α:Type}(l:List α)(lo hi:Int):Option (List α):=if(0<=lo/\0<=hi)/\(lo.toNat<=hi.toNat/\hi.toNat<=l.length)then some ((l.take hi.toNat).drop lo.toNat)else none
def bX{α:Type}(l:List α)(lo:Int):Option (List α):=if 0<=lo/\lo.toNat<=l.length then some (l.drop lo.toNat)else none
def kx{α:Type}(l:List α)(hi:Int):Option (List α):=if 0<=hi/\hi.toNat<=l.length then some (l.take hi.toNat)else none
def u8(n:Int):UInt8:=UInt8.ofNat n.toNat
def Kh(n b:Nat):Bool:=qg n b
section
variable {α:Type} {l:List α} {i lo hi:Int} {x:α} {r:List α}
theorem iJ(h:qi l i=some x)(k:IntKind):wW (.pv (.int k i))=some i.toNat:=by
 unfold qi at h;split at h
 ·rename_i h0;simp[wW,h0]
 cases h
theorem I8(k:IntKind){n:Int}(h:0<=n):wW (.pv (.int k n))=some n.toNat:=by simp[wW,h]
theorem eo(h:qi l i=some x):l[i.toNat]? =some x:=by
 unfold qi at h;split at h
 ·exact h
 cases h
theorem iI{β:Type}(e:α->β)(h:qi l i=some x):(List.map e l)[i.toNat]? =some (e x):=by simp[eo h]
theorem Ym(h:qi l i=some x):l.isEmpty=false:=by
 have:=eo h;cases l<;>simp_all
theorem Qe(h:qi l i=some x)(k:Nat):zC k l=k:=by
 have:=eo h;cases l<;>simp_all [zC]
theorem SJ(h:qi l i=some x)(k:Nat):(zC k l=k)=True:=by simp[Qe h]
theorem Qd(h:qi l i=some x):(i.toNat<l.length)=True:=by
 have:=eo h;simp only[eq_iff_iff,iff_true];exact(qF this).1
theorem RK(h:kb l lo hi=some r)(k:IntKind):wW (.pv (.int k lo))=some lo.toNat:=by
 unfold kb at h;split at h
 ·rename_i h0;simp[wW,h0.1.1]
 cases h
theorem RI(h:kb l lo hi=some r)(k:IntKind):wW (.pv (.int k hi))=some hi.toNat:=by
 unfold kb at h;split at h
 ·rename_i h0;simp[wW,h0.1.2]
 cases h
theorem RJ(h:kb l lo hi=some r):(lo.toNat<=hi.toNat)=True:=by
 unfold kb at h;split at h
 ·rename_i h0;simp[h0.2.1]
 cases h
theorem Bt(h:kb l lo hi=some r):(hi.toNat<=l.length)=True:=by
 unfold kb at h;split at h
 ·rename_i h0;simp[h0.2.2]
 cases h
theorem QJ(h:kb l lo hi=some r):(l.take hi.toNat).drop lo.toNat=r:=by
 unfold kb at h;split at h<;>simp_all
theorem subF_lo(h:bX l lo=some r)(k:IntKind):wW (.pv (.int k lo))=some lo.toNat:=by
 unfold bX at h;split at h
 ·rename_i h0;simp[wW,h0.1]
 cases h
theorem subF_le(h:bX l lo=some r):(lo.toNat<=l.length)=True:=by
 unfold bX at h;split at h
 ·rename_i h0;simp[h0.2]
 cases h
theorem Um(h:bX l lo=some r):l.drop lo.toNat=r:=by
 unfold bX at h;split at h<;>simp_all
theorem subT_hi(h:kx l hi=some r)(k:IntKind):wW (.pv (.int k hi))=some hi.toNat:=by
 unfold kx at h;split at h
 ·rename_i h0;simp[wW,h0.1]
 cases h
theorem OV(h:kx l hi=some r):(hi.toNat<=l.length)=True:=by
 unfold kx at h;split at h
 ·rename_i h0;simp[h0.2]
 cases h
theorem Uo(h:kx l hi=some r):l.take hi.toNat=r:=by
 unfold kx at h;split at h<;>simp_all
theorem Gq{β:Type}(e:α->β)(h:kb l lo hi=some r):((List.map e l).take hi.toNat).drop lo.toNat=List.map e r:=by rw[<- List.map_take,<- List.map_drop,QJ h]
theorem ES{β:Type}(e:α->β)(h:bX l lo=some r):(List.map e l).drop lo.toNat=List.map e r:=by rw[<- List.map_drop,Um h]
theorem ET{β:Type}(e:α->β)(h:kx l hi=some r):(List.map e l).take hi.toNat=List.map e r:=by rw[<- List.map_take,Uo h]
theorem Bz(h:kb l lo hi=some r)(k:Nat):zC (zC k l) r=zC k r:=by
 have:=QJ h;cases r with
 |nil=>rfl
 |cons=>cases l<;>simp_all [zC]
theorem OX(h:bX l lo=some r)(k:Nat):zC (zC k l) r=zC k r:=by
 have:=Um h;cases r with
 |nil=>rfl
 |cons=>cases l<;>simp_all [zC]
theorem OY(h:kx l hi=some r)(k:Nat):zC (zC k l) r=zC k r:=by
 have:=Uo h;cases r with
 |nil=>rfl
 |cons=>cases l<;>simp_all [zC]
theorem RM{β:Type}(k:Nat)(e:α->β)(l:List α):zC k (List.map e l)=zC k l:=by cases l<;>rfl
theorem szc_szc(k:Nat)(l:List α):zC (zC k l) l=zC k l:=by cases l<;>rfl
theorem RN(k:Nat):zC k ([]:List α)=0:=rfl
theorem Bw(k:Nat)(x:α)(l:List α):zC k (x::l)=k:=rfl
theorem Bx(k:Nat)(l:List α)(x:α)(r:List α):zC k (l++x::r)=k:=by cases l<;>rfl
theorem RO(k:Nat)(l:List α)(i:Nat)(x:α):zC k (l.set i x)=zC k l:=by cases l<;>cases i<;>rfl
theorem T7{β:Type}(e:α->β)(l:List α):(List.map e l).isEmpty=l.isEmpty:=by cases l<;>rfl
theorem HQ(l:List α)(x:α)(r:List α):(l++x::r).isEmpty=false:=by cases l<;>rfl
theorem T9(l:List α)(i:Nat)(x:α):(l.set i x).isEmpty=l.isEmpty:=by cases l<;>cases i<;>rfl
theorem HP(x:α)(l:List α):(x::l).isEmpty=false:=rfl
theorem T8:([]:List α).isEmpty=true:=rfl
theorem szc_or{β:Type}(k:Nat)(e:α->β)(l:List α):(zC k l=k\/List.map e l=[])=True:=by cases l<;>simp[zC]
theorem map_set{β:Type}(e:α->β)(l:List α)(i:Nat)(x:α):(List.map e l).set i (e x)=List.map e (l.set i x):=by simp[List.map_set]
theorem ER(s:qa):List.map (fun b=>[PV.int .u8 (b.toNat:Int)]) s=List.map Zw s:=rfl
theorem iu: ∀s:qa,nK (List.map Zw s)=some s
 |[]=>rfl
 |b::s=>by simp[Zw,nK,iu s]
theorem L6(b:UInt8):u8 (b.toNat:Int)=b:=by simp[u8]
theorem RR(n:Int):((u8 (IntKind.u8.wrap n)).toNat:Int)=IntKind.u8.wrap n:=by
 have h:0<=IntKind.u8.wrap n/\IntKind.u8.wrap n<256:=by
  simp only[IntKind.wrap,IntKind.bits,IntKind.signed];constructor
  ·simp;omega
  simp;omega
 simp only[u8,UInt8.toNat_ofNat'];omega
theorem range1:List.range 1=[0]:=rfl
theorem range2:List.range 2=[0,1]:=rfl
theorem range3:List.range 3=[0,1,2]:=rfl
theorem range4:List.range 4=[0,1,2,3]:=rfl
theorem range5:List.range 5=[0,1,2,3,4]:=rfl
theorem range6:List.range 6=[0,1,2,3,4,5]:=rfl
def fH(te:TI)(β L n:Nat)(src:List (List PV))(nx:Nat):Option qC->Option bY
 |some (.row true _ es)=>if L=es.length/\n=0 then jH te (.row β L 0 n) src β nx nx else none
 |some (.row false sz es)=>
  if L=es.length/\sz=te.size/\qg (n+src.length) te.bytes=true then
   if n=es.length then some (.row β (es++src).length 0 (es++src).length,[(β,.row false te.size (es++src))],nx)
   else some (.row β (es.take n++src++es.drop (n+src.length)).length 0 (n+src.length),[(β,.row false te.size (es.take n++src++es.drop (n+src.length)))],nx)
  else none
 |_=>none
theorem Om(te:TI)(β L n nx sz:Nat)(es src:List (List PV)):fH te β L n src nx (some (.row false sz es))=
  if L=es.length/\sz=te.size/\qg (n+src.length) te.bytes=true then
   if n=es.length then some (.row β (es++src).length 0 (es++src).length,[(β,.row false te.size (es++src))],nx)
   else some (.row β (es.take n++src++es.drop (n+src.length)).length 0 (n+src.length),[(β,.row false te.size (es.take n++src++es.drop (n+src.length)))],nx)
  else none:=rfl
theorem On(te:TI)(β L n nx sz:Nat)(es src:List (List PV)):fH te β L n src nx (some (.row true sz es))=if L=es.length/\n=0 then jH te (.row β L 0 n) src β nx nx else none:=rfl
def XP(te:TI)(β L n:Nat)(H:qn)(nx:Nat)(d:Option bY):Option (Nat×List (List PV))->Option bY
 |none=>d
 |some (mT,src)=>if(mT=te.size\/src=[])/\0<te.size then fH te β L n src nx (H.get β)else none
theorem Hc(te:TI)(β L n:Nat)(x:AV)(H:qn)(nx:Nat):ua te (.row β L 0 n) x H nx=XP te β L n H nx (bx te (.row β L 0 n) x H nx) (vT x H):=by
 unfold ua XP;cases vT x H with
 |none=>rfl
 |some p=>
  obtain⟨mT,src⟩:=p;simp only;split
  ·unfold fH;cases H.get β with
   |none=>rfl
   |some b=>
    cases b with
    |row qq sz es=>cases qq<;>simp
    |_=>rfl
  rfl
theorem Hb(te:TI)(sz:Nat)(es:List (List PV))(x:AV)(H:qn)(nx:Nat):ua te (.pv (.sl true sz es)) x H nx=
  match vT x H with
  |none=>bx te (.pv (.sl true sz es)) x H nx
  |some (mT,src)=>if(mT=te.size\/src=[])/\0<te.size then jH te (.pv (.sl true sz es)) src nx nx (nx+1)else none:=rfl
theorem Hd(te:TI)(x:AV)(H:qn)(nx:Nat):ua te .aT x H nx=
  match vT x H with
  |none=>bx te .aT x H nx
  |some (mT,src)=>if(mT=te.size\/src=[])/\0<te.size then jH te .aT src nx nx (nx+1)else none:=rfl
theorem Bb(te:TI)(β k nx:Nat)(e:α->List PV)(l:List α)(c:List PV)(src:List (List PV))(hk:k=te.size)(hr:qg (l.length+(c::src).length) te.bytes=true):
  fH te β l.length l.length (c::src) nx (some (.row l.isEmpty (zC k l) (List.map e l)))=
   some (.row β (List.map e l++c::src).length 0 (List.map e l++c::src).length,[(β,.row false k (List.map e l++c::src))],nx):=by
 subst hk;cases l with
 |nil=>
  have Lv:qg (src.length+1) te.bytes=true:=by simpa using hr
  simp[fH,jH,Lv]
 |cons a l=>
  have Lv:qg (l.length+1+(src.length+1)) te.bytes=true:=by simpa using hr
  simp[fH,zC,Lv]
theorem AL{γ:Type}(te:TI)(s:AV)(e' :γ->List PV)(xs:List γ)(b nx cL:Nat)(hs:xs.isEmpty=false)(hr:qg xs.length te.bytes=true):
  jH te s (List.map e' xs) b nx cL=some (.row b xs.length 0 xs.length,[(b,.row false te.size (List.map e' xs))],cL):=by
 cases xs with
 |nil=>simp at hs
 |cons c r=>
  have Lv:qg (r.length+1) te.bytes=true:=by simpa using hr
  simp[jH,Lv]
theorem app_ne{γ:Type}{l s:List γ}(h:(l.isEmpty&&s.isEmpty)=false):(l++s).isEmpty=false:=by cases l<;>cases s<;>simp_all
theorem app_szc{γ:Type}{l s:List γ}(h:(l.isEmpty&&s.isEmpty)=false)(k:Nat):zC k (l++s)=k:=by cases l<;>cases s<;>simp_all [zC]
end
structure PT where
 es:List (Int×Int×Nat)
 zI:Nat
 deriving Inhabited
def entE(e:Int×Int×Nat):PV×PV×Nat:=(.int .i64 e.1,.int .i64 e.2.1,e.2.2)
def lookB(te:TI)(k:PV)(ok:Bool):Option qC->Option AV
 |some (.map es _)=>match findKey k es 0 with
  |some (some (_,v,_))=>some (if ok then .xS [.pv v,.pv (.bool true)]else .pv v)
  |some none=>some (if ok then .xS [.pv (Ke te),.pv (.bool false)]else .pv (Ke te))
  |none=>none
 |_=>none
def updB(β:Nat)(k v:PV):Option qC->Option (List (Nat×qC))
 |some (.map es zI)=>match findKey k es 0 with
  |some (some (i,_,born))=>some [(β,.map (es.set i (k,v,born)) zI)]
  |some none=>some [(β,.map (es++[(k,v,zI)]) (zI+1))]
  |none=>none
 |_=>none
def delB(β:Nat)(k:PV):Option qC->Option (List (Nat×qC))
 |some (.map es zI)=>match findKey k es 0 with
  |some (some (i,_,_))=>some [(β,.map (es.eraseIdx i) zI)]
  |some none=>some [(β,.map es zI)]
  |none=>none
 |_=>none
theorem S7(tk te:TI)(β:Nat)(k:PV)(ok:Bool)(H:qn):dM tk te (.map β) (.pv k) ok H=if xv tk.td k=true then lookB te k ok (H.get β)else none:=by
 unfold dM J5;simp only;split
 ·cases H.get β with
  |none=>rfl
  |some b=>cases b<;>rfl
 rfl
theorem Sa(tk:TI)(β:Nat)(k v:PV)(H:qn):pI tk (.map β) (.pv k) v H=if xv tk.td k=true then updB β k v (H.get β)else none:=by
 unfold pI;simp only;split
 ·cases H.get β with
  |none=>rfl
  |some b=>cases b<;>rfl
 rfl
theorem A6(tk te:TI)(β:Nat)(k:PV)(H:qn):ig tk te (.map β) (.pv k) H=none:=rfl
theorem KT(β:Nat)(kd:IntKind)(born:Int)(v:PV)(H:qn):gj (.map β) (.pv (.int kd born)) v H=none:=rfl
theorem S4(tk:TI)(β:Nat)(k:PV)(H:qn):rB tk (.map β) (.pv k) H=if xv tk.td k=true then delB β k (H.get β)else none:=by
 unfold rB;simp only;split
 ·cases H.get β with
  |none=>rfl
  |some b=>cases b<;>rfl
 rfl
section
variable (b:Bool) (β:Nat) (m:PT) (k:Int)
end
theorem j8{α:Type}{l:List α}{n:Nat}(h:n<l.length):qi l (n:Int)=some l[n]:=by simp[qi,h]
theorem mcons{α β:Type}(f:α->β)(a:α)(l:List α):List.map f (a::l)=f a::List.map f l:=rfl
theorem mnil{α β:Type}(f:α->β):List.map f ([]:List α)=[]:=rfl
theorem lnil{α:Type}:([]:List α).length=0:=rfl
theorem lcons{α:Type}(a:α)(l:List α):(a::l).length=l.length+1:=rfl
theorem lset{α:Type}(l:List α)(i:Nat)(x:α):(l.set i x).length=l.length:=List.length_set
def encx:=PLift.up (And.intro @mcons (And.intro @mnil (And.intro @lnil (And.intro @lcons (And.intro @RN (And.intro @Bw (And.intro @Bx (And.intro @RO (And.intro @T8 (And.intro @HP (And.intro @HQ (And.intro @T9 (And.intro @lset (And.intro @L6 @RR))))))))))))))
theorem l4{α:Type}{P:Program}{t:TypeId}{e:α->List PV}{ok:α->Prop}{n:Nat}(h:jO P t e ok n):jO P t e (fun _=>True) n:=h.map (fun x=>x) (fun _ _=>⟨trivial,rfl⟩)
def Qx{α β:Type}(e1:α->List PV)(e2:β->List PV)(x:α×β):List PV:=e1 x.1++e2 x.2
def ga{α:Type}(_:α):Prop:=True
def YH(_:Unit):List PV:=[]
theorem fP{α β:Type}{P:Program}{f:Field}{fs:List Field}{e1:α->List PV}{ok1:α->Prop}{e2:β->List PV}{n off c:Nat}(ho:f.offset=off)(hc:P.cellsOf f.type=c)
  (h1:jO P f.type e1 ok1 n) (h2:pF P fs e2 ga n (off+c)):pF P (f::fs) (Qx e1 e2) ga n off:=by
 intro H enc w base spare held fuel cs a b d;obtain⟨x,m,_,h⟩:=pF.cons ho hc h1 h2 H enc w base spare held fuel cs a b d;exact⟨x,m,trivial,h⟩
theorem fNil{P:Program}(n off:Nat):pF P [] YH ga n off:=by
 intro H enc w base spare held fuel cs a b d;obtain⟨x,m,_,h⟩:=pF.nil (P:=P) n off H enc w base spare held fuel cs a b d;exact⟨x,m,trivial,h⟩
theorem rdSl{α:Type}{P:Program}{t el:TypeId}{sz:Nat}{e:α->List PV}{ok:α->Prop}{n:Nat}(ht:P.underlying t=some (.slice el))(hc:P.cellsOf t=1)(bO:P.cellsOf el=sz)(bU:0<sz)
  (h:jO P el e ok n):jO P t (ng sz e) (fun _=>True) n:=
 ((jO.slice ht hc bO bU h).map (fun x=>(⟨x.1&&x.2.isEmpty,x.2⟩:Sl α)) (fun x _=>⟨trivial,by simp[ng,slP,T7,RM]⟩)).mono (Nat.le_succ n)
def fS(n:Int):Prop:= -9223372036854775808<=n/\n<=9223372036854775807
def bK(s:qa):Prop:=s.length<=maxLen
def bq{α:Type}(ok:α->Prop)(s:Sl α):Prop:=(s.l.length<=maxLen/\(s.nil=true->s.l=[]))/\ ∀a∈s.l,ok a
theorem drop_cons{α:Type}{xs:List α}{i:Nat}{x:α}{r:List α}(h:xs.drop i=x::r):xs[i]? =some x/\xs.drop (i+1)=r/\i<xs.length:=by
 have h1:xs[i]? =some x:=by
  have:=congrArg (fun l=>l[0]?) h;simpa using this
 have h2:xs.drop (i+1)=r:=by
  have:=congrArg (fun l=>l.drop 1) h;simpa[List.drop_drop]using this
 exact⟨h1,h2,(qF h1).1⟩
theorem wU{α:Type}{xs:List α}{i:Nat}(h:xs.drop i=[]):xs.length<=i:=by simpa using h
theorem qI{n:Int}(h1: -9223372036854775808<=n)(h2:n<=9223372036854775807):IntKind.i64.wrap n=n:=IntWalk.i64_in n ⟨h1,h2⟩
theorem ct{n:Nat}(h:n<9223372036854775807):IntKind.i64.wrap ((n:Int)+1)=((n+1:Nat):Int):=qI (by omega) (by omega)
theorem NB(b:Bool):AV.cells (.pv (.bool b))=[(.pv (.bool b))]:=rfl
theorem Sh(k:IntKind)(n:Int):AV.cells (.pv (.int k n))=[(.pv (.int k n))]:=rfl
theorem Si(l:List UInt8):AV.cells (.pv (.str l))=[(.pv (.str l))]:=rfl
theorem Aq(a:Bool)(b:Nat)(c:List (List PV)):AV.cells (.pv (.sl a b c))=[(.pv (.sl a b c))]:=rfl
theorem Ya:AV.cells (.pv (.jk))=[(.pv (.jk))]:=rfl
theorem HE:AV.cells (.pv (.rX))=[(.pv (.rX))]:=rfl
theorem Y9:AV.cells (.pv (.gG))=[(.pv (.gG))]:=rfl
theorem HF:AV.cells (.pv (.dT))=[(.pv (.dT))]:=rfl
theorem Ao(f:FuncId):AV.cells (.pv (.fn f))=[(.pv (.fn f))]:=rfl
theorem Ap(c:List PV):AV.cells (.pv (.rp c))=[(.pv (.rp c))]:=rfl
theorem NC(c:List PV):AV.cells (.pv (.agg c))=c.map .pv:=rfl
theorem Nx(x y:Nat):AV.cells (.ptr x y)=[(.ptr x y)]:=rfl
theorem HB(x y z u:Nat):AV.cells (.yT x y z u)=[(.yT x y z u)]:=rfl
theorem HC(c:List PV)(x:Nat):AV.cells (.mR c x)=[(.mR c x)]:=rfl
theorem Ny(x y z u:Nat):AV.cells (.row x y z u)=[(.row x y z u)]:=rfl
theorem NA:AV.cells (.aT)=[(.aT)]:=rfl
theorem Nw(x:Nat):AV.cells (.map x)=[(.map x)]:=rfl
theorem Nv(f:FuncId)(a b:List AV):AV.cells (.lp f a b)=[(.lp f a b)]:=rfl
theorem Nz(l:List AV):AV.cells (.xS l)=[(.xS l)]:=rfl
theorem Sg(c:List AV):AV.cells (.agg c)=c:=rfl
abbrev qm(n:Int):AV:= .pv (.int .i64 n)
abbrev zt(b:Bool):AV:= .pv (.bool b)
abbrev qL(s:qa):AV:= .pv (.str s)
abbrev o5(l:List PV):AV:= .pv (.agg l)
abbrev v_l{α:Type}(k:Nat)(e:α->List PV)(s:Sl α):AV:= .pv (.sl s.nil (zC k s.l) (List.map e s.l))
abbrev qp{α:Type}(β:Nat)(l:List α):AV:= .row β l.length 0 l.length
abbrev b_x(l:List PV):qC:= .box (List.map .pv l)
abbrev b_r{α:Type}(k:Nat)(e:α->List PV)(l:List α):qC:= .row l.isEmpty (zC k l) (List.map e l)
abbrev b_m(m:PT):qC:= .map (List.map entE m.es) m.zI
theorem v_i_eq(n:Int):qm n= .pv (.int .i64 n):=rfl
theorem v_b_eq(b:Bool):zt b= .pv (.bool b):=rfl
theorem v_s_eq(s:qa):qL s= .pv (.str s):=rfl
theorem v_g_eq(l:List PV):o5 l= .pv (.agg l):=rfl
theorem v_l_eq{α:Type}(k:Nat)(e:α->List PV)(s:Sl α):v_l k e s= .pv (.sl s.nil (zC k s.l) (List.map e s.l)):=rfl
theorem v_r_eq{α:Type}(β:Nat)(l:List α):qp β l= .row β l.length 0 l.length:=rfl
theorem b_x_eq(l:List PV):b_x l= .box (List.map .pv l):=rfl
theorem b_r_eq{α:Type}(k:Nat)(e:α->List PV)(l:List α):b_r k e l= .row l.isEmpty (zC k l) (List.map e l):=rfl
theorem b_m_eq(m:PT):b_m m= .map (List.map entE m.es) m.zI:=rfl
theorem Am(b:UInt8):Zw b=[.int .u8 b.toNat]:=rfl
theorem intE_eq(n:Int):zX n=[.int .i64 n]:=rfl
theorem strE_eq(s:qa):dF s=[.str s]:=rfl
theorem Aj(b:Bool):Hy b=[.bool b]:=rfl
theorem kE_eq(k:IntKind)(n:Int):kE k n=[.int k n]:=rfl
theorem slE_eq{α:Type}(k:Nat)(e:α->List PV)(s:Sl α):ng k e s=[.sl s.nil (zC k s.l) (List.map e s.l)]:=rfl
theorem Af{α:Type}(e:α->List PV)(s:α×α):Ae e s=e s.1++e s.2:=rfl
def wordx:=PLift.up (And.intro @v_i_eq (And.intro @v_b_eq (And.intro @v_s_eq (And.intro @v_g_eq (And.intro @v_l_eq (And.intro @v_r_eq (And.intro @b_x_eq (And.intro @b_r_eq (And.intro @b_m_eq (And.intro @Am (And.intro @intE_eq (And.intro @strE_eq (And.intro @Aj (And.intro @kE_eq (And.intro @slE_eq @Af)))))))))))))))
section
variable {α β:Type} {r:β} {P:Prop}
theorem bs{o:Option α}{k:α->Option β}(f: ∀x,o=some x->k x=some r->P)(h:o>>=k=some r):P:=by
 obtain⟨x,h1,h2⟩:=Option.bind_eq_some_iff.1 h;exact f x h1 h2
theorem it{b:Bool}{p q:Option β}(f:b=true->p=some r->P)(g:b=false->q=some r->P)(h:(if b=true then p else q)=some r):P:=by
 cases b
 ·exact g rfl h
 exact f rfl h
theorem gd{Q:Prop}[Decidable Q]{p:Option β}(f:Q->p=some r->P)(h:(if Q then p else none)=some r):P:=by
 split at h
 ·exact f ‹_› h
 cases h
variable {l:List α} {i lo hi:Int}
theorem bw{k:α->Option β}(e:α->List PV)(f: ∀x,qi l i=some x->(∀ kd,wW (.pv (.int kd i))=some i.toNat)->(List.map e l)[i.toNat]? =some (e x)->(i.toNat<l.length)=True->k x=some r->P)(h:qi l i>>=k=some r):P:=
 bs (fun x hx=>f x hx (iJ hx) (iI e hx) (Qd hx)) h
theorem bW{k:α->Option β}(e:α->List PV)(z:Nat)(f: ∀x,qi l i=some x->(∀ kd,wW (.pv (.int kd i))=some i.toNat)->(List.map e l)[i.toNat]? =some (e x)->(i.toNat<l.length)=True->l.isEmpty=false->zC z l=z->k x=some r->P)(h:qi l i>>=k=some r):P:=
 bs (fun x hx=>f x hx (iJ hx) (iI e hx) (Qd hx) (Ym hx) (Qe hx z)) h
variable {k:List α->Option β}
theorem b2(e:α->List PV)(f: ∀x,kb l lo hi=some x->(∀ kd,wW (.pv (.int kd lo))=some lo.toNat)->(∀ kd,wW (.pv (.int kd hi))=some hi.toNat)->(lo.toNat<=hi.toNat)=True->(hi.toNat<=l.length)=True->((List.map e l).take hi.toNat).drop lo.toNat=List.map e x->(∀ z,zC (zC z l) x=zC z x)->k x=some r->P)(h:kb l lo hi>>=k=some r):P:=
 bs (fun x hx=>f x hx (RK hx) (RI hx) (RJ hx) (Bt hx) (Gq e hx) (Bz hx)) h
variable {s:List α}
theorem rG(k:Nat)(e:α->List PV)(l:List α)(te:TI)(β nx:Nat)(c:List PV)(hk:k=te.size)(hr:qg (l.length+1) te.bytes=true):
  fH te β l.length l.length [c] nx (some (.row l.isEmpty (zC k l) (List.map e l)))=some (.row β (List.map e l++[c]).length 0 (List.map e l++[c]).length,[(β,.row false k (List.map e l++[c]))],nx):=Bb te β k nx e l c [] hk hr
theorem rN(e:α->List PV)(hs:s.isEmpty=false)(te:TI)(v:AV)(b nx cL:Nat)(hr:qg s.length te.bytes=true):jH te v (List.map e s) b nx cL=some (.row b s.length 0 s.length,[(b,.row false te.size (List.map e s))],cL):=AL te v e s b nx cL hs hr
end
section
variable (m:PT) (k v:Int) (b:Bool) (β:Nat)
end
theorem fF{G:GP}{f:FuncId}{S:nI}{nt:Nat}{ob:Option Code}{ra:Array ResultVar}(Z4:G.fn f=some ⟨nt,ra.toList,ob.get!⟩){c:Code}{rs:List ResultVar}{H:qn}{args:List AV}{r:Option (AV×qn)}
  (hs:S.call f=none:=by rfl) (hc:ob=some c:=by rfl) (hr:ra=⟨rs⟩:=by rfl) (hk:yV 0 H=true:=by rfl)
  (h:WN G f H.length rs (cont G (omega G S) f [.code c] (.normal,⟨pJ 0 args,H,H.length⟩))=r:=by
   simp(maxSteps:=2000000) (disch:=first|assumption|rfl|exact FT.mk (by kernel_rfl)) only[go_sem,↓reduceIte,Nat.reduceLeDiff,Nat.reduceEqDiff,Nat.reduceLT,Nat.reduceAdd,Nat.reduceSub,Nat.reduceMul,reduceCtorEq,Nat.reducePow, *]):
  (omega G S).call f args H=r:=TK hs Z4 hc hr hk h
theorem fL{G:GP}{f:FuncId}{S:nI}{fi:FI}(Z4:G.fn f=some fi){id:Nat}{c:Code}{s:St}{r:Option (Ex×St)}
  (hc:zv fi.body id=some c:=by rfl)
  (h:dy G (omega G S) f id s.nx (cont G (omega G S) f [.code c] (.normal,s))=r:=by
   simp(maxSteps:=2000000) (disch:=first|assumption|rfl|exact FT.mk (by kernel_rfl)) only[go_sem,↓reduceIte,Nat.reduceLeDiff,Nat.reduceEqDiff,Nat.reduceLT,Nat.reduceAdd,Nat.reduceSub,Nat.reduceMul,reduceCtorEq,Nat.reducePow, *]):
  (omega G S).loop f id s=r:=TM Z4 hc h
def U9(H:qn):List Nat->List Nat
 |[]=>[]
 |β::r=>(tB H β).refs++U9 H r
theorem VF(H:qn): ∀d:List Nat,(d.flatMap fun β=>(tB H β).refs)=U9 H d
 |[]=>rfl
 |β::r=>by rw[List.flatMap_cons,VF H r];rfl
theorem Dk(H:qn)(d roots:List Nat):tu H d roots=match roots,d with
 |[],[]=>some ([],[])
 |roots,d=>let L:=bE H 400 (roots++U9 H d) d
  if Un roots L&&mn H L L then some (L,pick H (pos L) 0 L)else none:=by
 cases roots<;>cases d<;>first|rfl|simp only[tu,VF]
theorem aNil_p1(H:qn):sD .ptr (.pv .jk) H=some true:=rfl
theorem aNil_p2(H:qn)(β o:Nat):sD .ptr (.ptr β o) H=some false:=rfl
theorem aNil_p3(H:qn)(c:List PV)(o:Nat):sD .ptr (.mR c o) H=some false:=rfl
theorem aNil_p4(H:qn)(β zF i o:Nat):sD .ptr (.yT β zF i o) H=some false:=rfl
theorem aNil_p5(H:qn)(c:List PV):sD .ptr (.pv (.rp c)) H=some false:=rfl
theorem aNil_s1(H:qn)(e:TypeId)(b:Bool)(sz:Nat)(es:List (List PV)):sD (.slice e) (.pv (.sl b sz es)) H=some b:=rfl
theorem aNil_s2(H:qn)(e:TypeId):sD (.slice e) .aT H=some false:=rfl
theorem aNil_s3(H:qn)(e:TypeId)(β zF off n:Nat):sD (.slice e) (.row β zF off n) H=match H.get β with|some (.row b _ es)=>if zF=es.length then some b else none|_=>none:=rfl
theorem aNil_m1(H:qn)(k e:TypeId):sD (.map k e) (.pv .gG) H=some true:=rfl
theorem aNil_m2(H:qn)(k e:TypeId)(β:Nat):sD (.map k e) (.map β) H=some false:=rfl
theorem aNil_f1(H:qn):sD .func (.pv .rX) H=some true:=rfl
theorem aNil_f2(H:qn)(f:FuncId):sD .func (.pv (.fn f)) H=some false:=rfl
theorem aNil_f3(H:qn)(f:FuncId)(a b:List AV):sD .func (.lp f a b) H=some false:=rfl
def oE{α:Type}(k:Nat)(e:α->List PV)(l:List (Sl α)):List PV:=l.map fun x=> .sl x.nil (zC k x.l) (List.map e x.l)
def nV{α:Type}(ds:List Nat)(k:Nat)(e:α->List PV)(x:Sl (Sl α)):qC:= .jI x.nil ds (oE k e x.l) none
section
variable {α:Type} (k:Nat) (e:α->List PV) (l:List (Sl α))
theorem oE_len:(oE k e l).length=l.length:=by simp[oE]
theorem oE_nil:oE k e []=[]:=rfl
theorem oE_get{i:Int}{x:Sl α}(h:qi l i=some x):(oE k e l)[i.toNat]? =some (.sl x.nil (zC k x.l) (List.map e x.l)):=by simp[oE,eo h]
theorem oE_flat:(List.map (ng k e) l).flatten=oE k e l:=by
 induction l with
 |nil=>rfl
 |cons x l ih=>simp[oE,ng]at ih |-; exact ih
end
theorem Bu{α:Type}{l r:List α}{n:Int}(h:kx l n=some r):r.length=n.toNat:=by
 unfold kx at h;split at h
 ·rename_i hc;cases h;rw[List.length_take];omega
 cases h
theorem Bg{α:Type}{e:α->List PV}(he: ∀x,(e x).all PV.Kk=true)(l:List α):rF (List.map e l)=true:=by
 simp[rF];intro x _;simpa using he x
theorem szc_or2{α:Type}(k:Nat)(l:List α):(l.isEmpty=true\/zC k l=k)=True:=by cases l<;>simp[zC]
def pP{α:Type}(d:α):List (Nat×α)->Nat->α
 |[],_=>d
 |(a,x)::r,k=>if a=k then x else pP d r k
class ze {β:Type} (o:Option β) (Q:outParam (β->Prop)):Prop where
 ok: ∀r,o=some r->Q r
class zM (G:GP) (f:FuncId) (fi:outParam FI):Prop where
 h:G.fn f=some fi
abbrev qQ(x:Func):FI:=⟨x.ntmps,x.results.toList,x.body.get!⟩
theorem zR{G:GP}{f:FuncId}{x:FI}(h:G.fn f=some x:=by kernel_rfl):zM G f x:=⟨h⟩
abbrev Lp(a b:List Nat):nU:=⟨a,b,[],[],[],0⟩
abbrev Lq(a b p:List Nat):nU:=⟨a,b,p,[],[],0⟩
def xW:PV:= .int .i64 0
def tZ:PV:= .str []
def bD:PV:= .bool false
def kq:PV:= .sl true 0 []
def tF:Option TI:=some ⟨1,8,.func,[.rX],false,none⟩
def tS(e:TypeId):Option TI:=some ⟨1,24,.slice e,[.sl true 0 []],false,none⟩
def tP(e:TypeId):Option TI:=some ⟨1,8,.ptr,[.jk],false,some e⟩
def tT(n b:Nat)(fs:List (Nat×Nat×TypeId))(z:List PV):Option TI:=some ⟨n,b,.struct fs,z,true,none⟩
class kY (α:Type) (k:outParam Nat) (e:outParam (α->List PV)):Prop where
 t:True
instance:kY UInt8 1 Zw:=⟨trivial⟩
instance:kY Int 1 zX:=⟨trivial⟩
instance:kY Bool 1 Hy:=⟨trivial⟩
instance:kY qa 1 dF:=⟨trivial⟩
instance{α:Type}{k:Nat}{e:α->List PV}[kY α k e]:kY (Sl α) 1 (ng k e):=⟨trivial⟩
instance{α:Type}{k:Nat}{e:α->List PV}[kY α k e]:kY (α×α) (k+k) (Ae e):=⟨trivial⟩
section
variable {α β γ:Type} {r:β} {P:Prop} {a b:Bool} {p q:Option β}
theorem iA(f:a=true->(if b=true then p else q)=some r->P)(g:a=false->q=some r->P)(h:(if (a&&b)=true then p else q)=some r):P:=by
 cases a
 ·exact g rfl (by simpa using h)
 exact f rfl (by simpa using h)
theorem iO(f:a=true->p=some r->P)(g:a=false->(if b=true then p else q)=some r->P)(h:(if (a || b)=true then p else q)=some r):P:=by
 cases a
 ·exact g rfl (by simpa using h)
 exact f rfl (by simpa using h)
theorem bsS{o:Option (α⊕γ)}{k:α⊕γ->Option β}(f: ∀y,o=some (.inl y)->k (.inl y)=some r->P)(g: ∀y,o=some (.inr y)->k (.inr y)=some r->P)(h:o>>=k=some r):P:=by
 obtain⟨x,h1,h2⟩:=Option.bind_eq_some_iff.1 h;cases x with
 |inl y=>exact f y h1 h2
 |inr y=>exact g y h1 h2
theorem bsS3{δ:Type}{o:Option (α⊕(γ⊕δ))}{k:α⊕(γ⊕δ)->Option β}(f: ∀y,o=some (.inl y)->k (.inl y)=some r->P)(g: ∀y,o=some (.inr (.inl y))->k (.inr (.inl y))=some r->P)(g' : ∀y,o=some (.inr (.inr y))->k (.inr (.inr y))=some r->P)(h:o>>=k=some r):P:=
 bsS f (fun y=>by cases y with|inl y=>exact g y|inr y=>exact g' y) h
variable {i lo hi:Int}
theorem bsS4{δ ε:Type}{o:Option (α⊕(γ⊕(δ⊕ε)))}{k:α⊕(γ⊕(δ⊕ε))->Option β}(f: ∀y,o=some (.inl y)->k (.inl y)=some r->P)(g: ∀y,o=some (.inr (.inl y))->k (.inr (.inl y))=some r->P)(g' : ∀y,o=some (.inr (.inr (.inl y)))->k (.inr (.inr (.inl y)))=some r->P)(g'' : ∀y,o=some (.inr (.inr (.inr y)))->k (.inr (.inr (.inr y)))=some r->P)(h:o>>=k=some r):P:=
 bsS3 f g (fun y=>by cases y with|inl y=>exact g' y|inr y=>exact g'' y) h
theorem wgO{l:List (Sl α)}{k:Sl α->Option β}{n:Nat}{e:α->List PV}[kY α n e](f: ∀x,qi l i=some x->(∀ kd,wW (.pv (.int kd i))=some i.toNat)->l[i.toNat]? =some x->(List.map (ng n e) l)[i.toNat]? =some (ng n e x)->(oE n e l)[i.toNat]? =some (.sl x.nil (zC n x.l) (List.map e x.l))->(i.toNat<l.length)=True->l.isEmpty=false->(∀ z,zC z l=z)->k x=some r->P)(h:qi l i>>=k=some r):P:=
 bs (fun x hx=>f x hx (iJ hx) (eo hx) (iI _ hx) (oE_get n e l hx) (Qd hx) (Ym hx) (Qe hx)) h
theorem wgV{l:Sl α}{k:α->Option β}{n:Nat}{e:α->List PV}[kY α n e](f: ∀x,qi l.l i=some x->(∀ kd,wW (.pv (.int kd i))=some i.toNat)->(List.map e l.l)[i.toNat]? =some (e x)->(∀ z,(zC z l.l=z)=True)->(i.toNat<l.l.length)=True->k x=some r->P)(h:qi l.l i>>=k=some r):P:=
 bs (fun x hx=>f x hx (iJ hx) (iI e hx) (SJ hx) (Qd hx)) h
variable {l:List α}
theorem wg{k:α->Option β}{n:Nat}{e:α->List PV}[kY α n e](f: ∀x,qi l i=some x->(∀ kd,wW (.pv (.int kd i))=some i.toNat)->l[i.toNat]? =some x->(List.map e l)[i.toNat]? =some (e x)->(i.toNat<l.length)=True->l.isEmpty=false->(∀ z,zC z l=z)->k x=some r->P)(h:qi l i>>=k=some r):P:=
 bs (fun x hx=>f x hx (iJ hx) (eo hx) (iI e hx) (Qd hx) (Ym hx) (Qe hx)) h
variable {k:List α->Option β}
theorem w2{n:Nat}{e:α->List PV}[kY α n e](f: ∀x,kb l lo hi=some x->(∀ kd,wW (.pv (.int kd lo))=some lo.toNat)->(∀ kd,wW (.pv (.int kd hi))=some hi.toNat)->(lo.toNat<=hi.toNat)=True->(hi.toNat<=l.length)=True->(l.take hi.toNat).drop lo.toNat=x->((List.map e l).take hi.toNat).drop lo.toNat=List.map e x->(∀ z,zC (zC z l) x=zC z x)->k x=some r->P)(h:kb l lo hi>>=k=some r):P:=
 bs (fun x hx=>f x hx (RK hx) (RI hx) (RJ hx) (Bt hx) (QJ hx) (Gq e hx) (Bz hx)) h
theorem wF{n:Nat}{e:α->List PV}[kY α n e](f: ∀x,bX l lo=some x->(∀ kd,wW (.pv (.int kd lo))=some lo.toNat)->(lo.toNat<=l.length)=True->l.drop lo.toNat=x->(List.map e l).drop lo.toNat=List.map e x->(∀ z,zC (zC z l) x=zC z x)->k x=some r->P)(h:bX l lo>>=k=some r):P:=
 bs (fun x hx=>f x hx (subF_lo hx) (subF_le hx) (Um hx) (ES e hx) (OX hx)) h
theorem wT{n:Nat}{e:α->List PV}[kY α n e](f: ∀x,kx l hi=some x->(∀ kd,wW (.pv (.int kd hi))=some hi.toNat)->(hi.toNat<=l.length)=True->l.take hi.toNat=x->(List.map e l).take hi.toNat=List.map e x->(∀ z,zC (zC z l) x=zC z x)->x.length=hi.toNat->k x=some r->P)(h:kx l hi>>=k=some r):P:=
 bs (fun x hx=>f x hx (subT_hi hx) (OV hx) (Uo hx) (ET e hx) (OY hx) (Bu hx)) h
end
abbrev xq{α β:Type}(f:α->Option β)(Q:α->β->Prop):Prop:= ∀p,ze (f p) (Q p)
theorem gP{α β:Type}{f:α->Option β}{Q:α->β->Prop}{F:(α->Option β)->α->Option β}(pc: ∀m:α->β->Prop,(∀ g:α->Option β,(∀ x r,g x=some r->m x r)-> ∀x r,F g x=some r->m x r)-> ∀x r,f x=some r->m x r)
  (h: ∀g:α->Option β,xq g Q-> ∀p r,F g p=some r->Q p r):xq f Q:=fun p=>⟨pc Q (fun g i=>h g fun p=>⟨i p⟩) p⟩
class VV (α:Type) (f:outParam (α->AV)):Prop where
 t:True
instance:VV Int qm:=⟨trivial⟩
instance:VV Bool zt:=⟨trivial⟩
instance:VV qa qL:=⟨trivial⟩
instance{α:Type}{k:Nat}{e:α->List PV}[kY α k e]:VV (Sl α) (v_l k e):=⟨trivial⟩
def vv{α:Type}{f:α->AV}[VV α f](x:α):AV:=f x
theorem lh{α:Type}{f:α->AV}[VV α f](x:α):vv x=f x:=rfl
def bb{α:Type}{k:Nat}{e:α->List PV}[kY α k e](x:α):qC:=b_x (e x)
theorem oQ{α:Type}{k:Nat}{e:α->List PV}[kY α k e](x:α):bb x=b_x (e x):=rfl
def br{α:Type}{k:Nat}{e:α->List PV}[kY α k e](l:List α):qC:=b_r k e l
theorem oS{α:Type}{k:Nat}{e:α->List PV}[kY α k e](l:List α):br l=b_r k e l:=rfl
def bm{α:Type}{k:Nat}{e:α->List PV}[kY α k e](l:List α):qC:= .row false k (List.map e l)
theorem oR{α:Type}{k:Nat}{e:α->List PV}[kY α k e](l:List α):bm l= .row false k (List.map e l):=rfl
def nz{α:Type}(b:Bool)(k:Nat)(l:List α):Nat:=match b with|true=>zC k l|false=>k
theorem nz_t{α:Type}(k:Nat)(l:List α):nz true k l=zC k l:=rfl
theorem nz_f{α:Type}(k:Nat)(l:List α):nz false k l=k:=rfl
theorem nz_or{α β:Type}(b:Bool)(k:Nat)(e:α->β)(l:List α):(nz b k l=k\/List.map e l=[])=True:=by cases b<;>cases l<;>simp[nz,zC]
def bN{α:Type}{k:Nat}{e:α->List PV}[kY α k e](x:Sl α):qC:= .row x.nil (nz x.nil k x.l) (List.map e x.l)
theorem bN_eq{α:Type}{k:Nat}{e:α->List PV}[kY α k e](x:Sl α):bN x= .row x.nil (nz x.nil k x.l) (List.map e x.l):=rfl
theorem I7(k:IntKind){n:Int}(h:0<=n):wW (.pv (.int k n))=some n.toNat:=I8 k h
section
variable {α β:Type} (e:α->β) (l r:List α) (k:Nat)
theorem PB{l r:List α}(h:(l.isEmpty&&r.isEmpty)=false)(k:Nat):zC k (l++r)=k:=app_szc h k
theorem Se:nK []=some []:=rfl
theorem Sf(n:Int)(r:List (List PV)):nK ([.int .u8 n]::r)=(nK r).map fun l=>u8 n::l:=by
 rw[nK];cases nK r<;>rfl
theorem Ow(l:List Int):rF (List.map zX l)=true:=Bg (fun _=>rfl) l
theorem Ox(n:Nat)(k:IntKind)(z:Int):rF (List.replicate n [PV.int k z])=true:=by
 unfold rF;rw[List.all_eq_true];intro x hx;rw[(List.mem_replicate.1 hx).2];rfl
theorem map_oE{α:Type}(k:Nat)(e:α->List PV)(l:List (Sl α)):(oE k e l).map (fun p=>[p])=List.map (ng k e) l:=by
 unfold oE ng;rw[List.map_map];rfl
structure Fit (l:List α) (n:Nat):Prop where
 h:l.length<=n
theorem take_ge{n:Nat}{l:List α}(h:Fit l n):l.take n=l:=List.take_of_length_le h.h
theorem szc_apC(a t:List α)(c:α)(k:Nat):zC k (a++c::t)=k:=by cases a<;>rfl
theorem szc_apL(a t b:List α)(c:α)(k:Nat):zC k (a++c::t++b)=k:=by cases a<;>rfl
theorem D6(l:List Int)(i:Nat)(k:IntKind)(z:Int):rF ((List.map zX l).set i [PV.int k z])=true:=by
 unfold rF;rw[List.all_eq_true];intro x hx;rcases List.mem_or_eq_of_mem_set hx with hx|rfl
 ·obtain⟨a,_,rfl⟩:=List.mem_map.1 hx;rfl
 rfl
theorem OW(k n:Nat)(kd:IntKind)(z:Int):zC k (List.replicate n [PV.int kd z])=zC k (List.replicate n z):=by cases n<;>rfl
theorem Nu(l:qa)(i:Nat)(c:UInt8):nK ((List.map Zw l).set i [PV.int .u8 (c.toNat:Int)])=some (l.set i c):=by
 have:[PV.int .u8 (c.toNat:Int)]=Zw c:=rfl;rw[this,<- List.map_set,iu]
theorem oE_one{α:Type}(k:Nat)(e:α->List PV)(x:Sl α):oE k e [x]=[PV.sl x.nil (zC k x.l) (List.map e x.l)]:=rfl
theorem oE_setR{α:Type}(k:Nat)(e:α->List PV)(l:List (Sl α))(n:Nat)(x:Sl α):oE k e (l.set n x)=(oE k e l).set n (PV.sl x.nil (zC k x.l) (List.map e x.l)):=by simp[oE,List.map_set]
theorem szcN{α:Type}{l:List α}(h:l.isEmpty=false)(k:Nat):zC k l=k:=by cases l<;>simp_all [zC]
theorem oE_take{α:Type}(k:Nat)(e:α->List PV)(l:List (Sl α))(n:Nat):(oE k e l).take n=oE k e (l.take n):=by simp[oE]
theorem rG2{α:Type}(k:Nat)(e:α->List PV)(l:List α)(te:TI)(β nx:Nat)(c d:List PV)(hk:k=te.size)(hr:qg (l.length+2) te.bytes=true):
  fH te β l.length l.length [c,d] nx (some (.row l.isEmpty (zC k l) (List.map e l)))=some (.row β (List.map e l++[c,d]).length 0 (List.map e l++[c,d]).length,[(β,.row false k (List.map e l++[c,d]))],nx):=Bb te β k nx e l c [d] hk hr
theorem rZ(te:TI)(β nx:Nat)(src:List (List PV)):fH te β 0 0 src nx (some (.row true 0 []))=jH te (.row β 0 0 0) src β nx nx:=rfl
theorem fE0(te:TI)(v:AV)(b nx cL:Nat):jH te v [] b nx cL=some (v,[],nx):=rfl
theorem set_id{l:List α}{i:Nat}{x:α}(h:l[i]? =some x):l.set i x=l:=by
 apply List.ext_getElem?;intro j;rw[List.getElem?_set];split
 ·rename_i h2;subst h2;split
  ·exact h.symm
  rename_i h3;rw[List.getElem?_eq_none (by omega)]at h;cases h
 rfl
theorem oS1{α:Type}{k i n:Nat}{e:α->List PV}{l:List (Sl α)}{m:List (List PV)}(h:(oE k e l)[i]? =some (PV.sl false n m)):(oE k e l).set i (PV.sl false n m)=oE k e l:=set_id h
theorem oE_end{α:Type}(k:Nat)(e:α->List PV)(l:List (Sl α))(c d:PV)(t:List PV):(oE k e l++c::t).set l.length d=oE k e l++d::t:=by
 have:l.length=(oE k e l).length:=by simp[oE]
 rw[this];simp
theorem oE_app{α:Type}(k:Nat)(e:α->List PV)(l r:List (Sl α)):oE k e (l++r)=oE k e l++oE k e r:=by simp[oE]
end
end Go.Gm
namespace Go.Proofs.YtmllebdamdnhoaaGreat
open Go Go.Gm
def spec:FuncId->Nat->nU
 |3,0=>Lp [2,4,7,8,9] [6]
 |3,2=>Lp [2,4,7,8,9,10,15] [2,4,6,7,8,9]
 |4,0=>Lp [1,2,7] [6]
 |4,2=>Lp [1,2,7,8] [1,2,7]
 |5,0=>Lp [1,2,7] [6]
 |7,0=>⟨[0,2,3,5],[2,3],[],[(3,4),(3,5)],[],2⟩
 |8,0=>Lq [1,6,7,8,9] [7] [7]
 |9,0=>Lp [2,3,11,12,13] [4,5]
 |9,2=>Lp [2,3,6,11,12,13,19,20,21] [2,3,4,5,11,12,13]
 |10,0=>Lp [2,3,6] [4,5]
 |10,2=>Lp [2,3,6,7] [2,3,4,5,6]
 |11,0=>Lp [2,9,10,11] [4]
 |12,0=>Lp [1,2,5] [4]
 |13,0=>Lp [0,1,5] [4]
 |16,0=>Lp [3,6,42,43,44] [2]
 |16,2=>Lp [3,6,7,8,9,42,43,44,54,55,56] [2,3,8,42,43,44]
 |17,0=>Lp [0,4,5] [2,3,4]
 |19,0=>Lq [0,1,5,6] [5] [5]
 |20,0=>Lq [0,1,5,6] [5] [5]
 |20,2=>Lq [0,1,5,6,7] [0,1,5,6] [5]
 |24,0=>Lp [0,1,7,8,9] [0,1,4]
 |25,0=>⟨[3,14,15,16],[3],[],[(3,2)],[],0⟩
 |26,0=>Lp [0,1] []
 |27,0=>⟨[0,14,15,16],[],[],[],[2000],0⟩
 |28,0=>Lp [0,3] [2]
 |28,2=>Lp [0,3,4] [0,2,3]
 |28,4=>Lp [0,3,4,44,45,46] [0,2,3,4]
 |29,0=>Lp [0,2,11,12] []
 |29,2=>⟨[0,2,3,4,11,12,34,35,36],[0,3,4,11,12],[],[(4,1),(4,2)],[],0⟩
 |30,0=>Lq [0,2,3,9,10,11] [0,2,3] [3]
 |31,0=>Lp [0,1,14,15,16] [1,4,5]
 |32,0=>Lp [0,1,12,13] [4]
 |33,0=>⟨[2,5,18,19,20],[4],[],[],[18],0⟩
 |35,0=>Lq [0,5,10,11,12] [5] [5]
 |35,2=>Lq [0,5,10,11,12,17,18,19] [0,5,10,11,12] [5]
 |36,0=>Lp [0,1,8,9] [0,1,6,7,8]
 |39,0=>Lp [3,10,11,12] [2]
 |40,0=>Lq [3,6,7,8] [3] [3]
 |41,0=>Lp [0,7,8,9] [0]
 |45,0=>Lp [0,2,3] []
 |46,0=>Lp [0,1,5,10,12,13,14] [0,1,5,10,12]
 |46,2=>Lp [0,1,5,10,12,91,92,93] [0,10]
 |47,0=>⟨[1,3,12,13,14],[1,3],[],[],[1],0⟩
 |47,2=>Lq [1,3,6] [6] [6]
 |48,0=>Lp [0,1,2,3,9,10,11,47,48,49] [0,1,2,3,9,10,11]
 |48,2=>Lp [0,1,2,3,15,16,17] [8]
 |49,0=>Lq [1,2,3,7,8,9] [1,2,3] [3]
 |51,0=>Lq [4,14,15,16] [4] [4]
 |52,0=>Lp [1,2,5] [1,2,4]
 |55,0=>Lp [0,3] [2]
 |57,0=>Lq [0,1,5,6] [5] [5]
 |58,0=>Lq [0,1,2,7,8] [7] [7]
 |58,2=>Lq [14,15,16] [15] [15]
 |59,0=>Lp [0,1,6] [1,4,5]
 |60,0=>Lq [0,1,2,10,12,13] [0,12] [12]
 |61,0=>Lp [0,4,5] [4]
 |62,0=>Lq [1,2,3,6,8,10,11,12] [3,6,7,10,11] [10,11]
 |62,2=>⟨[6,10,11,24,25,26,27],[6,24,25],[],[(25,1)],[],0⟩
 |62,4=>⟨[6,10,11,24,25,26,27,28,29,30],[6,10,11,24,25,26,27,29],[],[(29,2)],[],0⟩
 |66,0=>Lq [1,2,4,6,7,8,9,10] [2,4,6,7,8,9] [8]
 |66,2=>Lq [1,2,4,6,7,8,9,10,11,12] [1,2,4,6,7,8,9,10] [8]
 |71,0=>⟨[2,3,12,13,14],[2,3],[],[(3,2)],[],0⟩
 |71,2=>Lp [2,3,6,12,13,14,23,24] [2,3,6,12,13,14]
 |75,0=>Lp [3,6,7,8] [2,3]
 |77,0=>Lp [7,8] [7]
 |78,0=>⟨[5,6,12,13,14,34,35,36],[12,14],[],[(14,1),(14,2)],[],0⟩
 |79,0=>⟨[1,5,8,9,10],[5],[5],[],[1],0⟩
 |82,0=>Lp [1,2,5,12,13,14] [5]
 |82,2=>Lp [1,2,5,7,8,12,13,14] [1,2,5,12,13,14]
 |83,0=>Lp [0,1,7,8] [4]
 |85,0=>Lp [1,2,3,7,8,9,10] [7,8,9]
 |86,0=>Lq [1,3,10,12,13,40,41,42] [1,6,7,8,10,12,13] [12]
 |86,2=>Lq [1,3,10,12,13,15,16,40,41,42,52,53,54] [1,3,10,12,13,15,16,40,41,42] [16]
 |86,4=>Lq [1,3,10,12,15,16,40,41,42,74,75,76] [1,3,10,12,15,40,41,42] [12]
 |87,0=>Lq [1,2,3,10,11,12] [1,2,3] [3]
 |87,2=>Lq [1,2,3,5,6,10,11,12,17,18,19] [1,2,3,5,6,10,11,12] [6]
 |92,0=>Lp [0,1,7,8] [4]
 |95,0=>Lp [1,3,5] [1,2]
 |95,2=>Lp [1,6] [2]
 |95,4=>Lp [1,6,7,8] [1,2,6]
 |97,0=>Lp [1,3,4] [3]
 |98,0=>Lp [0,1,4] [0,1,4]
 |98,2=>Lp [0,4,5,6] []
 |99,0=>Lp [0,3] [2]
 |99,2=>Lp [0,3,4] [0,2,3]
 |99,4=>Lp [0,3,4,5,6] [0,2,3,4]
 |100,0=>Lp [0,2] []
 |100,2=>Lq [0,2,3,4,5] [0,2,3,4] [4]
 |102,5=>Lp [0,1] [0,1]
 |102,7=>Lp [0,1] [1]
 |102,1=>Lp [0,1] [0,1]
 |102,3=>Lp [0,1] [1]
 |103,0=>Lq [3,4,5] [4] [4]
 |105,0=>⟨[0,3,4],[3],[],[],[3],0⟩
 |105,2=>Lp [0,3,4,5] [0,3,4,5]
 |105,4=>Lq [3,6,7] [6] [6]
 |107,0=>⟨[0,1,2,8,9],[0,1,2,8,9],[8,9],[],[],2⟩
 |108,0=>Lp [0,3,4] [3]
 |110,0=>Lp [0,1,6] [4,5]
 |111,0=>Lp [0,2,9,10,16,17] [0,2,9,10,16,17]
 |111,2=>Lp [0,2,9,10,16,17] [0,2,9,10,16,17]
 |113,0=>Lp [0,6,8] [0,6,8]
 |114,0=>Lp [11,12,13] [11,12]
 |114,2=>Lp [15,17,19,20] [15,17,19]
 |115,0=>Lp [0,3,4,5] [3,4]
 |115,2=>Lp [0,3,4,5,6] [0,3,4,5]
 |117,0=>Lq [1,2,4,6,7,8,9,10] [1,2,4,6,7,9] [9]
 |118,0=>Lp [0,6,7] [4,5]
 |120,0=>Lp [0,6,7] [4,5]
 |121,0=>Lp [0,1,2,6,7,8] [0,1,2,6,7]
 |121,2=>Lp [0,1,2,6] []
 |121,4=>Lp [0,1,2,6,7,8] [0,1,2,6,7]
 |122,0=>Lp [0,1,2,6,7,8] [0,1,2,6,7]
 |122,2=>Lp [0,1,2,6] []
 |122,4=>Lp [0,1,2,6,7,8] [0,1,2,6,7]
 |125,0=>⟨[1,2,4,5,10,11,19,20,21],[1,2,4,5,10,11],[],[],[],1000⟩
 |125,2=>Lp [10,11,71,72,73] [10,11]
 |126,0=>⟨[0,2,3,4,6,10,12,13,14,32,33,34],[10,12,13],[13],[(12,2)],[],0⟩
 |127,0=>Lp [0,1,14,15,16] [0]
 |130,0=>Lp [0,5] []
 |134,0=>Lp [1,5,12,13,14] [5]
 |137,0=>Lp [0,1,2,6,7,8] [0,1,2,6,7]
 |137,2=>Lp [0,1,2,6] []
 |137,4=>Lp [0,1,2,6,7,8] [0,1,2,6,7]
 |138,0=>Lp [2,5] [4]
 |138,2=>Lp [2,5,6,8] [2,4,5]
 |139,0=>Lp [1,2,5] [4]
 |140,0=>Lp [0,1,5] [1,4]
 |141,0=>Lp [0,1,5] [0]
 |142,0=>Lq [1,3,4] [3] [3]
 |143,0=>⟨[0,3,4],[3],[],[],[3],0⟩
 |143,2=>Lp [0,3,4,5] [0,3,4,5]
 |144,0=>Lp [0,1,2,3,5,10,12,13,14,15] [0,1,2,3,5,10,12,13,14]
 |144,2=>Lp [0,1,5,10,12,13,14,16,17] [0,1,5,10,12,13,14]
 |144,4=>Lp [0,1,5,10,12,13,14,20] [0,10]
 |145,0=>⟨[1,3,4],[1,3],[],[],[1],0⟩
 |145,2=>Lq [1,3,5] [5] [5]
 |145,4=>Lp [1,3,5,6,7,8] [1,3,5,6,7]
 |145,6=>Lp [1,3,5,6,7,9] [1,3,5,6]
 |146,0=>Lp [0,1,2,3,9,10,11] [0,1,2,3,9,10]
 |146,2=>Lp [0,1,2,3,9,12,13] [0,1,2,3,9,12]
 |146,4=>Lp [0,1,2,3,14,15] [8]
 |148,0=>Lp [0,1] [1]
 |149,0=>Lp [0,1] [0,1]
 |155,0=>⟨[0,3,4],[3],[],[],[3],0⟩
 |155,2=>Lp [0,3,4,5] [0,3,4,5]
 |160,0=>Lq [0,4,7,8] [0,4,7,8] [7]
 |160,2=>Lp [0,4,12,14] [0,4,5,6,12,14]
 |161,0=>⟨[0,1,6,7],[0,1,6,7],[6,7],[],[],2⟩
 |163,0=>Lq [0,3,4] [3] [3]
 |164,0=>Lp [0,3] [2]
 |165,0=>Lp [0,3] [3]
 |166,0=>Lp [0,1,5] [5]
 |167,0=>Lp [0,2,3,4] [2,3]
 |168,0=>⟨[0,1,2,6],[],[],[(0,3),(0,4),(0,5)],[],0⟩
 |169,0=>Lp [0,2,3] [0,2]
 |169,2=>Lp [0,2,4] [0]
 |169,4=>Lq [0,5,6] [] [5]
 |170,0=>Lp [0,3] [2]
 |170,2=>Lp [0,3,4,5] [0,3,4]
 |171,0=>⟨[0,1,3,10,11],[8,9,10],[],[(1,0),(1,1)],[],0⟩
 |172,0=>Lq [0,1,2,3,5,6,16] [2,6] [2]
 |173,0=>Lp [0,1,5] [0,1,5]
 |175,0=>Lp [0,1,2,3,8] []
 |175,2=>Lp [0,1,2,3,8,9] [0,1,2,3,8]
 |176,0=>Lp [0,1,4,10,11] [0,1,10]
 |176,2=>Lp [0,10,13] []
 |176,4=>Lp [0,2,4,14,15] [0,2,14]
 |176,6=>Lp [0,14,17] []
 |176,8=>Lp [0,1,2,3,4,18,19,20,21,22] [0,1,2,3,4,18,19,20]
 |177,0=>Lp [0,1,2,3,8] []
 |177,2=>Lp [0,1,2,3,8,9] [0,1,2,3,8]
 |178,0=>Lp [0,1,4,10,11] [0,1,10]
 |178,2=>Lp [0,10,13] []
 |178,4=>Lp [0,2,4,14,15] [0,2,14]
 |178,6=>Lp [0,14,17] []
 |178,8=>Lp [0,1,2,3,4,18,19,20,21,22] [0,1,2,3,4,18,19,20]
 |181,0=>Lp [0,2,3,5,8,9] [0,2,3,5,8]
 |181,2=>Lp [0,3,5,8,10,11] []
 |182,0=>Lp [0,2,4,6,28,29,30] []
 |186,0=>Lp [0,1,2,3,8,9] []
 |189,0=>Lp [0,5,6,7] [2]
 |190,0=>Lq [11,12,13] [8,9,10,11,12] [12]
 |193,1=>Lp [6,16,17,18] [6]
 |193,3=>Lp [6,31,32,33] [6]
 |195,0=>Lq [1,2,3,11,12,13] [1,2,3] [3]
 |197,0=>Lp [0,1,2,3,8] []
 |197,2=>Lp [0,1,2,3,8,9] [0,1,2,3,8]
 |198,0=>Lp [0,1,4,10,11] [0,1,10]
 |198,2=>Lp [0,10,13] []
 |198,4=>Lp [0,2,4,14,15] [0,2,14]
 |198,6=>Lp [0,14,17] []
 |198,8=>Lp [0,1,2,3,4,18,19,20,21,22] [0,1,2,3,4,18,19,20]
 |199,0=>Lp [0,1,2] [6]
 |200,0=>Lp [3,4] [2]
 |201,0=>Lq [0,3,4] [3] [3]
 |202,0=>⟨[1,6,7,11,14,17,18,19,20,21],[14,18,19],[19],[(18,1)],[],0⟩
 |202,2=>⟨[1,6,7,11,14,17,18,19,20,21,22,23,24,25,26],[1,6,7,11,14,17,18,19,20,21,22,23,24],[24],[(22,2)],[],0⟩
 |203,0=>Lq [0,1,5,6] [5] [5]
 |204,0=>Lp [0,1,5] [4]
 |205,0=>Lp [0,1,2,7] [6]
 |205,2=>Lp [0,1,2,7,8] [0,1,2,6,7]
 |206,0=>Lp [1,2,3,7,8,9] [6,7,8]
 |207,0=>Lp [1,3,9,10,14,15,16] [1,6,7,8,10,14,15]
 |211,0=>Lq [0,3,4] [3] [3]
 |212,0=>Lp [0,1,2,7,8] [0,6]
 |213,0=>Lp [0,1,7,8] [0,1,7,8]
 |214,0=>Lp [0,1,7] [0,1,7]
 |216,0=>Lq [0,1,7] [0,1,7] [7]
 |217,0=>Lp [2,3,5] [4]
 |220,0=>Lq [0,1,2,7,8,9] [7] [7]
 |221,0=>Lp [0,3,4] [2]
 |222,0=>⟨[0,3,5,8,9,10],[0,3,5,8,9],[],[(9,17)],[],0⟩
 |223,0=>Lp [0,1,5] [0,1,4]
 |224,0=>Lp [0,1,5] [4]
 |225,0=>Lp [0,1,5] [4]
 |226,0=>Lq [0,1,2,7] [2] [2]
 |228,0=>Lp [0,2,4,10,11] [0,2,4,10]
 |229,0=>Lp [0,2,4,10,11] [0,2,4,10]
 |232,0=>Lp [0,1,2,6] []
 |232,2=>Lp [0,1,2,6,7] [0,1,2,6]
 |233,0=>Lp [0,6,7,8,9] [0,6,7,8]
 |233,2=>Lp [0,6,7,10] []
 |234,0=>Lp [0,1,6,7,8,9] []
 |236,0=>Lp [0,6,7] []
 |237,0=>Lp [0,1,2,7,8] [6]
 |237,2=>Lp [0,1,2,7,8] [0,1,2,7,8]
 |237,4=>Lp [0,1,2,7,8,9] [0,1,2,7,8]
 |237,6=>Lp [0,1,2,7,8,10] [0,1,2,7,8]
 |239,0=>Lp [0,1,9,10] [9]
 |239,2=>Lp [0,1,9,10] [0,1,9,10]
 |239,4=>Lp [0,1,9,10] [0,1,9,10]
 |240,0=>Lp [0,1,10,11] [0,1,10,11]
 |240,2=>Lp [0,1,10,11] [0,1,10,11]
 |240,4=>Lp [0,1,10,11] [0,1,11]
 |240,6=>Lp [0,1,10,11] [0,1,10,11]
 |240,8=>Lp [0,1,10,11] [0,1,10,11]
 |243,0=>Lp [1,2,31,32,33] [1,6,7]
 |246,0=>Lp [0,1,4] [4,5]
 |252,0=>Lp [0,1,5,6] [5]
 |254,0=>Lp [0,2,4,10,11] [0,2,4,10]
 |255,0=>Lq [1,3,4] [3] [3]
 |255,2=>Lq [1,3,4,5,6] [1,3,4] [3]
 |256,0=>Lp [0,1,5,7,8] [0,1,5,7]
 |256,2=>Lp [0,1,5,7,9,10] [9]
 |257,0=>Lp [0,1,3,6,9,10,11] [0,1,3,6,9,10]
 |257,2=>Lp [0,1,3,6,9,10,12] [9]
 |258,0=>Lp [1,3,7,8] [7]
 |260,0=>Lp [0,1,7,8] [0]
 |262,0=>Lq [4,11,12,13] [8,9,10,11,12] [12]
 |264,0=>Lq [1,3,5,7,8] [3,7] [7]
 |265,0=>Lq [0,3,4,5] [3] [3]
 |266,0=>Lq [0,1,4,6] [4,5] [6]
 |266,2=>Lq [0,1,4,6,7] [0,1,4,5,6,7] [7]
 |267,1=>Lp [0,4,8,10,11] [4,5,6]
 |270,0=>Lp [2,3,5] [2,3,4]
 |270,2=>Lp [2,3,6] [4]
 |272,0=>Lp [0,1,5] [4]
 |274,0=>Lp [0,1,2,3,10] []
 |275,0=>Lp [0,1,2,3,10] []
 |276,0=>Lp [0,2,3,8] []
 |285,0=>Lq [0,3,4] [3] [3]
 |286,0=>Lq [0,3,4] [3] [3]
 |287,0=>⟨[1,4,5,22,23,24],[1,4,5],[],[(5,8)],[],0⟩
 |288,0=>Lp [7,8] [7]
 |290,0=>Lp [0,1,6,7,8] [0,1,6,7]
 |295,0=>Lp [0,1,2,3,10] []
 |298,0=>Lp [0,3] [2]
 |300,0=>Lp [0,2,4,6] [6,7]
 |301,0=>Lp [0,1,5] [4]
 |303,0=>Lp [0,1,5,6] [5]
 |310,0=>Lq [0,1,2,9] [0,1,9] [9]
 |314,0=>Lp [0,5,6,7] [2]
 |318,0=>Lp [0,1] [1]
 |319,0=>Lp [0,4,5] []
 |320,1=>Lp [0,2,3,29,30,31] [8]
 |323,0=>Lp [1,3,4] [3]
 |324,0=>Lp [1,3,4] [1,3]
 |325,0=>Lp [1,3,4] [1,2,3]
 |325,3=>Lp [1,3,5] [1,2,3]
 |325,5=>Lp [1,3,6] [1,2,3]
 |326,0=>Lq [0,3,4] [3] [3]
 |327,0=>Lq [0,2,4,6,8,9] [0,2,4,6,8] [8]
 |328,1=>Lp [6,7] [6]
 |328,3=>Lp [6,8] [6]
 |328,5=>Lp [1,9,10,11] [10]
 |331,0=>Lq [0,1,5,6] [5] [5]
 |345,0=>Lp [0,3] [2]
 |347,0=>Lp [1,3,4] [3]
 |348,1=>Lp [0,1,2,3,12,13,14] [0,2,3,12]
 |348,3=>Lp [0,1,2,3,15,16] [8,9,10]
 |351,0=>Lq [0,3,4] [3] [3]
 |352,0=>Lq [0,2,4,5] [2,3,4,5] [5]
 |354,0=>Lp [0,4,5] [4,5]
 |355,0=>Lp [0,1,7,8] [4]
 |356,0=>Lp [0,1,7,8] [4]
 |360,0=>Lp [3,8,9,10] [3]
 |367,0=>⟨[0,3,4],[3],[],[],[3],0⟩
 |367,2=>Lp [0,3,4,5,6] [0,3,4,5,6]
 |367,4=>Lq [3,7,8] [7] [7]
 |368,0=>Lp [3,4] [3]
 |371,0=>Lp [1,7,8,9] [4]
 |372,0=>Lp [3,8,9,10] [3]
 |373,0=>Lp [0,1,2,11,12] [0,1,2,11]
 |378,0=>Lp [0,1,5] [4]
 |379,0=>Lp [3,4] [3]
 |_,_=>{}
def ownL:List (Nat×Bool):=[(45,true),(68,true),(73,true),(88,true),(121,true),(122,true),(137,true),(172,true),(175,true),(176,true),(177,true),(178,true),(197,true),(198,true),(202,true),(204,true),(205,true),(225,true),(226,true),(269,true)]
def kpL:List (Nat×Bool):=[(17,true),(25,true),(42,true),(44,true),(67,true),(72,true),(77,true),(97,true),(125,true),(142,true),(172,true),(202,true),(226,true),(269,true),(299,true)]
def prL:List (Nat×List (Nat×List Nat)):=[(29,[(15,[4])]),(373,[(7,[11])])]
def fzL:List (Nat×Bool):=[(417,true)]
def mfL:List (Nat×Bool):=[(173,true),(204,true)]
def cmL:List (Nat×List (Nat×List RW)):=[(17,[(3,[.HV 4])]),(18,[(27,[.cut 5000]),(43,[.cut 6000])]),(97,[(3,[.prom 4003 [1,1]]),(11,[.pack 4003]),(999999,[.HV 2003])]),(98,[(7,[.cut 3000]),(9,[.cut 4000])]),(100,[(23,[.cut 3000]),(999999,[.cut 3000])]),(116,[(5,[.pack 4000])]),(117,[(0,[.HV 0])]),(142,[(3,[.prom 3 [1]]),(11,[.pack 3])]),(144,[(48,[.focus 4000 [20]]),(49,[.pack 4000])]),(146,[(12,[.focus 4000 [1,2]]),(13,[.pack 4000]),(26,[.focus 4000 [1,2]]),(27,[.pack 4000]),(28,[.focus 4000 [1,2]]),(29,[.pack 4000]),(40,[.focus 4000 [1,2]]),(41,[.pack 4000])]),(202,[(9,[.prom 19 [1]]),(52,[.focus 1 [21]]),(53,[.pack 1]),(65,[.pack 19]),(999999,[.HV 14])]),(203,[(0,[.HV 1])])]
noncomputable def G:GP:=gpOf Tryz.prog spec (pP false ownL) (pP false kpL) (fun f=>pP [] (pP [] prL f)) (pP false fzL) (pP false mfL) (fun f=>pP [] (pP [] cmL f))
theorem tbA:(∀ k,G.owned k=pP false ownL k)/\(∀ k,G.tA k=pP false kpL k)/\(∀ k i,G.pre k i=pP [] (pP [] prL k) i)/\(∀ k,G.HV k=pP false fzL k)/\(∀ k,G.DV k=pP false mfL k)/\ ∀k i,G.cmd k i=pP [] (pP [] cmL k) i:=⟨fun _=>rfl,fun _=>rfl,fun _ _=>rfl,fun _=>rfl,fun _=>rfl,fun _ _=>rfl⟩
theorem spA0:G.spec 3 0=Lp [2,4,7,8,9] [6]/\G.spec 3 2=Lp [2,4,7,8,9,10,15] [2,4,6,7,8,9]/\G.spec 4 0=Lp [1,2,7] [6]/\G.spec 4 2=Lp [1,2,7,8] [1,2,7]/\G.spec 5 0=Lp [1,2,7] [6]/\G.spec 7 0=⟨[0,2,3,5],[2,3],[],[(3,4),(3,5)],[],2⟩/\G.spec 8 0=Lq [1,6,7,8,9] [7] [7]/\G.spec 9 0=Lp [2,3,11,12,13] [4,5]/\G.spec 9 2=Lp [2,3,6,11,12,13,19,20,21] [2,3,4,5,11,12,13]/\G.spec 10 0=Lp [2,3,6] [4,5]/\G.spec 10 2=Lp [2,3,6,7] [2,3,4,5,6]/\G.spec 11 0=Lp [2,9,10,11] [4]/\G.spec 12 0=Lp [1,2,5] [4]/\G.spec 13 0=Lp [0,1,5] [4]/\G.spec 16 0=Lp [3,6,42,43,44] [2]/\G.spec 16 2=Lp [3,6,7,8,9,42,43,44,54,55,56] [2,3,8,42,43,44]/\G.spec 17 0=Lp [0,4,5] [2,3,4]/\G.spec 19 0=Lq [0,1,5,6] [5] [5]/\G.spec 20 0=Lq [0,1,5,6] [5] [5]/\G.spec 20 2=Lq [0,1,5,6,7] [0,1,5,6] [5]/\G.spec 24 0=Lp [0,1,7,8,9] [0,1,4]/\G.spec 25 0=⟨[3,14,15,16],[3],[],[(3,2)],[],0⟩/\G.spec 26 0=Lp [0,1] []/\G.spec 27 0=⟨[0,14,15,16],[],[],[],[2000],0⟩/\G.spec 28 0=Lp [0,3] [2]/\G.spec 28 2=Lp [0,3,4] [0,2,3]/\G.spec 28 4=Lp [0,3,4,44,45,46] [0,2,3,4]/\G.spec 29 0=Lp [0,2,11,12] []/\G.spec 29 2=⟨[0,2,3,4,11,12,34,35,36],[0,3,4,11,12],[],[(4,1),(4,2)],[],0⟩/\G.spec 30 0=Lq [0,2,3,9,10,11] [0,2,3] [3]/\G.spec 31 0=Lp [0,1,14,15,16] [1,4,5]/\G.spec 32 0=Lp [0,1,12,13] [4]/\G.spec 33 0=⟨[2,5,18,19,20],[4],[],[],[18],0⟩/\G.spec 35 0=Lq [0,5,10,11,12] [5] [5]/\G.spec 35 2=Lq [0,5,10,11,12,17,18,19] [0,5,10,11,12] [5]/\G.spec 36 0=Lp [0,1,8,9] [0,1,6,7,8]/\G.spec 39 0=Lp [3,10,11,12] [2]/\G.spec 40 0=Lq [3,6,7,8] [3] [3]/\G.spec 41 0=Lp [0,7,8,9] [0]/\G.spec 45 0=Lp [0,2,3] []:=by repeat' (first|apply And.intro|rfl)
theorem spA1:G.spec 46 0=Lp [0,1,5,10,12,13,14] [0,1,5,10,12]/\G.spec 46 2=Lp [0,1,5,10,12,91,92,93] [0,10]/\G.spec 47 0=⟨[1,3,12,13,14],[1,3],[],[],[1],0⟩/\G.spec 47 2=Lq [1,3,6] [6] [6]/\G.spec 48 0=Lp [0,1,2,3,9,10,11,47,48,49] [0,1,2,3,9,10,11]/\G.spec 48 2=Lp [0,1,2,3,15,16,17] [8]/\G.spec 49 0=Lq [1,2,3,7,8,9] [1,2,3] [3]/\G.spec 51 0=Lq [4,14,15,16] [4] [4]/\G.spec 52 0=Lp [1,2,5] [1,2,4]/\G.spec 55 0=Lp [0,3] [2]/\G.spec 57 0=Lq [0,1,5,6] [5] [5]/\G.spec 58 0=Lq [0,1,2,7,8] [7] [7]/\G.spec 58 2=Lq [14,15,16] [15] [15]/\G.spec 59 0=Lp [0,1,6] [1,4,5]/\G.spec 60 0=Lq [0,1,2,10,12,13] [0,12] [12]/\G.spec 61 0=Lp [0,4,5] [4]/\G.spec 62 0=Lq [1,2,3,6,8,10,11,12] [3,6,7,10,11] [10,11]/\G.spec 62 2=⟨[6,10,11,24,25,26,27],[6,24,25],[],[(25,1)],[],0⟩/\G.spec 62 4=⟨[6,10,11,24,25,26,27,28,29,30],[6,10,11,24,25,26,27,29],[],[(29,2)],[],0⟩/\G.spec 66 0=Lq [1,2,4,6,7,8,9,10] [2,4,6,7,8,9] [8]/\G.spec 66 2=Lq [1,2,4,6,7,8,9,10,11,12] [1,2,4,6,7,8,9,10] [8]/\G.spec 71 0=⟨[2,3,12,13,14],[2,3],[],[(3,2)],[],0⟩/\G.spec 71 2=Lp [2,3,6,12,13,14,23,24] [2,3,6,12,13,14]/\G.spec 75 0=Lp [3,6,7,8] [2,3]/\G.spec 77 0=Lp [7,8] [7]/\G.spec 78 0=⟨[5,6,12,13,14,34,35,36],[12,14],[],[(14,1),(14,2)],[],0⟩/\G.spec 79 0=⟨[1,5,8,9,10],[5],[5],[],[1],0⟩/\G.spec 82 0=Lp [1,2,5,12,13,14] [5]/\G.spec 82 2=Lp [1,2,5,7,8,12,13,14] [1,2,5,12,13,14]/\G.spec 83 0=Lp [0,1,7,8] [4]/\G.spec 85 0=Lp [1,2,3,7,8,9,10] [7,8,9]/\G.spec 86 0=Lq [1,3,10,12,13,40,41,42] [1,6,7,8,10,12,13] [12]/\G.spec 86 2=Lq [1,3,10,12,13,15,16,40,41,42,52,53,54] [1,3,10,12,13,15,16,40,41,42] [16]/\G.spec 86 4=Lq [1,3,10,12,15,16,40,41,42,74,75,76] [1,3,10,12,15,40,41,42] [12]/\G.spec 87 0=Lq [1,2,3,10,11,12] [1,2,3] [3]/\G.spec 87 2=Lq [1,2,3,5,6,10,11,12,17,18,19] [1,2,3,5,6,10,11,12] [6]/\G.spec 92 0=Lp [0,1,7,8] [4]/\G.spec 95 0=Lp [1,3,5] [1,2]/\G.spec 95 2=Lp [1,6] [2]/\G.spec 95 4=Lp [1,6,7,8] [1,2,6]:=by repeat' (first|apply And.intro|rfl)
theorem spA2:G.spec 97 0=Lp [1,3,4] [3]/\G.spec 98 0=Lp [0,1,4] [0,1,4]/\G.spec 98 2=Lp [0,4,5,6] []/\G.spec 99 0=Lp [0,3] [2]/\G.spec 99 2=Lp [0,3,4] [0,2,3]/\G.spec 99 4=Lp [0,3,4,5,6] [0,2,3,4]/\G.spec 100 0=Lp [0,2] []/\G.spec 100 2=Lq [0,2,3,4,5] [0,2,3,4] [4]/\G.spec 102 5=Lp [0,1] [0,1]/\G.spec 102 7=Lp [0,1] [1]/\G.spec 102 1=Lp [0,1] [0,1]/\G.spec 102 3=Lp [0,1] [1]/\G.spec 103 0=Lq [3,4,5] [4] [4]/\G.spec 105 0=⟨[0,3,4],[3],[],[],[3],0⟩/\G.spec 105 2=Lp [0,3,4,5] [0,3,4,5]/\G.spec 105 4=Lq [3,6,7] [6] [6]/\G.spec 107 0=⟨[0,1,2,8,9],[0,1,2,8,9],[8,9],[],[],2⟩/\G.spec 108 0=Lp [0,3,4] [3]/\G.spec 110 0=Lp [0,1,6] [4,5]/\G.spec 111 0=Lp [0,2,9,10,16,17] [0,2,9,10,16,17]/\G.spec 111 2=Lp [0,2,9,10,16,17] [0,2,9,10,16,17]/\G.spec 113 0=Lp [0,6,8] [0,6,8]/\G.spec 114 0=Lp [11,12,13] [11,12]/\G.spec 114 2=Lp [15,17,19,20] [15,17,19]/\G.spec 115 0=Lp [0,3,4,5] [3,4]/\G.spec 115 2=Lp [0,3,4,5,6] [0,3,4,5]/\G.spec 117 0=Lq [1,2,4,6,7,8,9,10] [1,2,4,6,7,9] [9]/\G.spec 118 0=Lp [0,6,7] [4,5]/\G.spec 120 0=Lp [0,6,7] [4,5]/\G.spec 121 0=Lp [0,1,2,6,7,8] [0,1,2,6,7]/\G.spec 121 2=Lp [0,1,2,6] []/\G.spec 121 4=Lp [0,1,2,6,7,8] [0,1,2,6,7]/\G.spec 122 0=Lp [0,1,2,6,7,8] [0,1,2,6,7]/\G.spec 122 2=Lp [0,1,2,6] []/\G.spec 122 4=Lp [0,1,2,6,7,8] [0,1,2,6,7]/\G.spec 125 0=⟨[1,2,4,5,10,11,19,20,21],[1,2,4,5,10,11],[],[],[],1000⟩/\G.spec 125 2=Lp [10,11,71,72,73] [10,11]/\G.spec 126 0=⟨[0,2,3,4,6,10,12,13,14,32,33,34],[10,12,13],[13],[(12,2)],[],0⟩/\G.spec 127 0=Lp [0,1,14,15,16] [0]/\G.spec 130 0=Lp [0,5] []:=by repeat' (first|apply And.intro|rfl)
theorem spA3:G.spec 134 0=Lp [1,5,12,13,14] [5]/\G.spec 137 0=Lp [0,1,2,6,7,8] [0,1,2,6,7]/\G.spec 137 2=Lp [0,1,2,6] []/\G.spec 137 4=Lp [0,1,2,6,7,8] [0,1,2,6,7]/\G.spec 138 0=Lp [2,5] [4]/\G.spec 138 2=Lp [2,5,6,8] [2,4,5]/\G.spec 139 0=Lp [1,2,5] [4]/\G.spec 140 0=Lp [0,1,5] [1,4]/\G.spec 141 0=Lp [0,1,5] [0]/\G.spec 142 0=Lq [1,3,4] [3] [3]/\G.spec 143 0=⟨[0,3,4],[3],[],[],[3],0⟩/\G.spec 143 2=Lp [0,3,4,5] [0,3,4,5]/\G.spec 144 0=Lp [0,1,2,3,5,10,12,13,14,15] [0,1,2,3,5,10,12,13,14]/\G.spec 144 2=Lp [0,1,5,10,12,13,14,16,17] [0,1,5,10,12,13,14]/\G.spec 144 4=Lp [0,1,5,10,12,13,14,20] [0,10]/\G.spec 145 0=⟨[1,3,4],[1,3],[],[],[1],0⟩/\G.spec 145 2=Lq [1,3,5] [5] [5]/\G.spec 145 4=Lp [1,3,5,6,7,8] [1,3,5,6,7]/\G.spec 145 6=Lp [1,3,5,6,7,9] [1,3,5,6]/\G.spec 146 0=Lp [0,1,2,3,9,10,11] [0,1,2,3,9,10]/\G.spec 146 2=Lp [0,1,2,3,9,12,13] [0,1,2,3,9,12]/\G.spec 146 4=Lp [0,1,2,3,14,15] [8]/\G.spec 148 0=Lp [0,1] [1]/\G.spec 149 0=Lp [0,1] [0,1]/\G.spec 155 0=⟨[0,3,4],[3],[],[],[3],0⟩/\G.spec 155 2=Lp [0,3,4,5] [0,3,4,5]/\G.spec 160 0=Lq [0,4,7,8] [0,4,7,8] [7]/\G.spec 160 2=Lp [0,4,12,14] [0,4,5,6,12,14]/\G.spec 161 0=⟨[0,1,6,7],[0,1,6,7],[6,7],[],[],2⟩/\G.spec 163 0=Lq [0,3,4] [3] [3]/\G.spec 164 0=Lp [0,3] [2]/\G.spec 165 0=Lp [0,3] [3]/\G.spec 166 0=Lp [0,1,5] [5]/\G.spec 167 0=Lp [0,2,3,4] [2,3]/\G.spec 168 0=⟨[0,1,2,6],[],[],[(0,3),(0,4),(0,5)],[],0⟩/\G.spec 169 0=Lp [0,2,3] [0,2]/\G.spec 169 2=Lp [0,2,4] [0]/\G.spec 169 4=Lq [0,5,6] [] [5]/\G.spec 170 0=Lp [0,3] [2]/\G.spec 170 2=Lp [0,3,4,5] [0,3,4]:=by repeat' (first|apply And.intro|rfl)
theorem spA4:G.spec 171 0=⟨[0,1,3,10,11],[8,9,10],[],[(1,0),(1,1)],[],0⟩/\G.spec 172 0=Lq [0,1,2,3,5,6,16] [2,6] [2]/\G.spec 173 0=Lp [0,1,5] [0,1,5]/\G.spec 175 0=Lp [0,1,2,3,8] []/\G.spec 175 2=Lp [0,1,2,3,8,9] [0,1,2,3,8]/\G.spec 176 0=Lp [0,1,4,10,11] [0,1,10]/\G.spec 176 2=Lp [0,10,13] []/\G.spec 176 4=Lp [0,2,4,14,15] [0,2,14]/\G.spec 176 6=Lp [0,14,17] []/\G.spec 176 8=Lp [0,1,2,3,4,18,19,20,21,22] [0,1,2,3,4,18,19,20]/\G.spec 177 0=Lp [0,1,2,3,8] []/\G.spec 177 2=Lp [0,1,2,3,8,9] [0,1,2,3,8]/\G.spec 178 0=Lp [0,1,4,10,11] [0,1,10]/\G.spec 178 2=Lp [0,10,13] []/\G.spec 178 4=Lp [0,2,4,14,15] [0,2,14]/\G.spec 178 6=Lp [0,14,17] []/\G.spec 178 8=Lp [0,1,2,3,4,18,19,20,21,22] [0,1,2,3,4,18,19,20]/\G.spec 181 0=Lp [0,2,3,5,8,9] [0,2,3,5,8]/\G.spec 181 2=Lp [0,3,5,8,10,11] []/\G.spec 182 0=Lp [0,2,4,6,28,29,30] []/\G.spec 186 0=Lp [0,1,2,3,8,9] []/\G.spec 189 0=Lp [0,5,6,7] [2]/\G.spec 190 0=Lq [11,12,13] [8,9,10,11,12] [12]/\G.spec 193 1=Lp [6,16,17,18] [6]/\G.spec 193 3=Lp [6,31,32,33] [6]/\G.spec 195 0=Lq [1,2,3,11,12,13] [1,2,3] [3]/\G.spec 197 0=Lp [0,1,2,3,8] []/\G.spec 197 2=Lp [0,1,2,3,8,9] [0,1,2,3,8]/\G.spec 198 0=Lp [0,1,4,10,11] [0,1,10]/\G.spec 198 2=Lp [0,10,13] []/\G.spec 198 4=Lp [0,2,4,14,15] [0,2,14]/\G.spec 198 6=Lp [0,14,17] []/\G.spec 198 8=Lp [0,1,2,3,4,18,19,20,21,22] [0,1,2,3,4,18,19,20]/\G.spec 199 0=Lp [0,1,2] [6]/\G.spec 200 0=Lp [3,4] [2]/\G.spec 201 0=Lq [0,3,4] [3] [3]/\G.spec 202 0=⟨[1,6,7,11,14,17,18,19,20,21],[14,18,19],[19],[(18,1)],[],0⟩/\G.spec 202 2=⟨[1,6,7,11,14,17,18,19,20,21,22,23,24,25,26],[1,6,7,11,14,17,18,19,20,21,22,23,24],[24],[(22,2)],[],0⟩/\G.spec 203 0=Lq [0,1,5,6] [5] [5]/\G.spec 204 0=Lp [0,1,5] [4]:=by repeat' (first|apply And.intro|rfl)
theorem spA5:G.spec 205 0=Lp [0,1,2,7] [6]/\G.spec 205 2=Lp [0,1,2,7,8] [0,1,2,6,7]/\G.spec 206 0=Lp [1,2,3,7,8,9] [6,7,8]/\G.spec 207 0=Lp [1,3,9,10,14,15,16] [1,6,7,8,10,14,15]/\G.spec 211 0=Lq [0,3,4] [3] [3]/\G.spec 212 0=Lp [0,1,2,7,8] [0,6]/\G.spec 213 0=Lp [0,1,7,8] [0,1,7,8]/\G.spec 214 0=Lp [0,1,7] [0,1,7]/\G.spec 216 0=Lq [0,1,7] [0,1,7] [7]/\G.spec 217 0=Lp [2,3,5] [4]/\G.spec 220 0=Lq [0,1,2,7,8,9] [7] [7]/\G.spec 221 0=Lp [0,3,4] [2]/\G.spec 222 0=⟨[0,3,5,8,9,10],[0,3,5,8,9],[],[(9,17)],[],0⟩/\G.spec 223 0=Lp [0,1,5] [0,1,4]/\G.spec 224 0=Lp [0,1,5] [4]/\G.spec 225 0=Lp [0,1,5] [4]/\G.spec 226 0=Lq [0,1,2,7] [2] [2]/\G.spec 228 0=Lp [0,2,4,10,11] [0,2,4,10]/\G.spec 229 0=Lp [0,2,4,10,11] [0,2,4,10]/\G.spec 232 0=Lp [0,1,2,6] []/\G.spec 232 2=Lp [0,1,2,6,7] [0,1,2,6]/\G.spec 233 0=Lp [0,6,7,8,9] [0,6,7,8]/\G.spec 233 2=Lp [0,6,7,10] []/\G.spec 234 0=Lp [0,1,6,7,8,9] []/\G.spec 236 0=Lp [0,6,7] []/\G.spec 237 0=Lp [0,1,2,7,8] [6]/\G.spec 237 2=Lp [0,1,2,7,8] [0,1,2,7,8]/\G.spec 237 4=Lp [0,1,2,7,8,9] [0,1,2,7,8]/\G.spec 237 6=Lp [0,1,2,7,8,10] [0,1,2,7,8]/\G.spec 239 0=Lp [0,1,9,10] [9]/\G.spec 239 2=Lp [0,1,9,10] [0,1,9,10]/\G.spec 239 4=Lp [0,1,9,10] [0,1,9,10]/\G.spec 240 0=Lp [0,1,10,11] [0,1,10,11]/\G.spec 240 2=Lp [0,1,10,11] [0,1,10,11]/\G.spec 240 4=Lp [0,1,10,11] [0,1,11]/\G.spec 240 6=Lp [0,1,10,11] [0,1,10,11]/\G.spec 240 8=Lp [0,1,10,11] [0,1,10,11]/\G.spec 243 0=Lp [1,2,31,32,33] [1,6,7]/\G.spec 246 0=Lp [0,1,4] [4,5]/\G.spec 252 0=Lp [0,1,5,6] [5]:=by repeat' (first|apply And.intro|rfl)
theorem spA6:G.spec 254 0=Lp [0,2,4,10,11] [0,2,4,10]/\G.spec 255 0=Lq [1,3,4] [3] [3]/\G.spec 255 2=Lq [1,3,4,5,6] [1,3,4] [3]/\G.spec 256 0=Lp [0,1,5,7,8] [0,1,5,7]/\G.spec 256 2=Lp [0,1,5,7,9,10] [9]/\G.spec 257 0=Lp [0,1,3,6,9,10,11] [0,1,3,6,9,10]/\G.spec 257 2=Lp [0,1,3,6,9,10,12] [9]/\G.spec 258 0=Lp [1,3,7,8] [7]/\G.spec 260 0=Lp [0,1,7,8] [0]/\G.spec 262 0=Lq [4,11,12,13] [8,9,10,11,12] [12]/\G.spec 264 0=Lq [1,3,5,7,8] [3,7] [7]/\G.spec 265 0=Lq [0,3,4,5] [3] [3]/\G.spec 266 0=Lq [0,1,4,6] [4,5] [6]/\G.spec 266 2=Lq [0,1,4,6,7] [0,1,4,5,6,7] [7]/\G.spec 267 1=Lp [0,4,8,10,11] [4,5,6]/\G.spec 270 0=Lp [2,3,5] [2,3,4]/\G.spec 270 2=Lp [2,3,6] [4]/\G.spec 272 0=Lp [0,1,5] [4]/\G.spec 274 0=Lp [0,1,2,3,10] []/\G.spec 275 0=Lp [0,1,2,3,10] []/\G.spec 276 0=Lp [0,2,3,8] []/\G.spec 285 0=Lq [0,3,4] [3] [3]/\G.spec 286 0=Lq [0,3,4] [3] [3]/\G.spec 287 0=⟨[1,4,5,22,23,24],[1,4,5],[],[(5,8)],[],0⟩/\G.spec 288 0=Lp [7,8] [7]/\G.spec 290 0=Lp [0,1,6,7,8] [0,1,6,7]/\G.spec 295 0=Lp [0,1,2,3,10] []/\G.spec 298 0=Lp [0,3] [2]/\G.spec 300 0=Lp [0,2,4,6] [6,7]/\G.spec 301 0=Lp [0,1,5] [4]/\G.spec 303 0=Lp [0,1,5,6] [5]/\G.spec 310 0=Lq [0,1,2,9] [0,1,9] [9]/\G.spec 314 0=Lp [0,5,6,7] [2]/\G.spec 318 0=Lp [0,1] [1]/\G.spec 319 0=Lp [0,4,5] []/\G.spec 320 1=Lp [0,2,3,29,30,31] [8]/\G.spec 323 0=Lp [1,3,4] [3]/\G.spec 324 0=Lp [1,3,4] [1,3]/\G.spec 325 0=Lp [1,3,4] [1,2,3]/\G.spec 325 3=Lp [1,3,5] [1,2,3]:=by repeat' (first|apply And.intro|rfl)
theorem spA7:G.spec 325 5=Lp [1,3,6] [1,2,3]/\G.spec 326 0=Lq [0,3,4] [3] [3]/\G.spec 327 0=Lq [0,2,4,6,8,9] [0,2,4,6,8] [8]/\G.spec 328 1=Lp [6,7] [6]/\G.spec 328 3=Lp [6,8] [6]/\G.spec 328 5=Lp [1,9,10,11] [10]/\G.spec 331 0=Lq [0,1,5,6] [5] [5]/\G.spec 345 0=Lp [0,3] [2]/\G.spec 347 0=Lp [1,3,4] [3]/\G.spec 348 1=Lp [0,1,2,3,12,13,14] [0,2,3,12]/\G.spec 348 3=Lp [0,1,2,3,15,16] [8,9,10]/\G.spec 351 0=Lq [0,3,4] [3] [3]/\G.spec 352 0=Lq [0,2,4,5] [2,3,4,5] [5]/\G.spec 354 0=Lp [0,4,5] [4,5]/\G.spec 355 0=Lp [0,1,7,8] [4]/\G.spec 356 0=Lp [0,1,7,8] [4]/\G.spec 360 0=Lp [3,8,9,10] [3]/\G.spec 367 0=⟨[0,3,4],[3],[],[],[3],0⟩/\G.spec 367 2=Lp [0,3,4,5,6] [0,3,4,5,6]/\G.spec 367 4=Lq [3,7,8] [7] [7]/\G.spec 368 0=Lp [3,4] [3]/\G.spec 371 0=Lp [1,7,8,9] [4]/\G.spec 372 0=Lp [3,8,9,10] [3]/\G.spec 373 0=Lp [0,1,2,11,12] [0,1,2,11]/\G.spec 378 0=Lp [0,1,5] [4]/\G.spec 379 0=Lp [3,4] [3]:=by repeat' (first|apply And.intro|rfl)
theorem tiA0:G.ti 1=tF/\G.ti 2=some ⟨1,8,.int .i64,[.int .i64 0],false,none⟩/\G.ti 3=some ⟨1,8,.int .i64,[.int .i64 0],false,none⟩/\G.ti 4=some ⟨1,1,.bool,[.bool false],false,none⟩/\G.ti 5=some ⟨1,1,.int .u8,[.int .u8 0],false,none⟩/\G.ti 6=some ⟨1,1,.int .u8,[.int .u8 0],false,none⟩/\G.ti 7=tT 4 24 [(0,1,2),(1,1,3),(2,1,4),(3,1,6)] [xW,xW,bD,.int .u8 0]/\G.ti 8=tT 4 24 [(0,1,2),(1,1,3),(2,1,4),(3,1,6)] [xW,xW,bD,.int .u8 0]/\G.ti 9=some ⟨1,16,.string,[.str []],false,none⟩/\G.ti 10=some ⟨1,16,.string,[.str []],false,none⟩/\G.ti 11=some ⟨1,16,.string,[.str []],false,none⟩/\G.ti 12=some ⟨1,8,.int .u64,[.int .u64 0],false,none⟩/\G.ti 13=some ⟨2,24,.struct [(0,1,9),(1,1,12)],[.str [],.int .u64 0],false,none⟩/\G.ti 14=some ⟨2,24,.struct [(0,1,9),(1,1,12)],[.str [],.int .u64 0],false,none⟩/\G.ti 15=tP 432/\G.ti 16=tP 435/\G.ti 17=tP 442/\G.ti 18=some ⟨1,8,.struct [(0,1,17)],[.jk],false,none⟩/\G.ti 19=some ⟨1,8,.struct [(0,1,17)],[.jk],false,none⟩/\G.ti 20=some ⟨1,16,.other,[.dT],false,none⟩/\G.ti 21=some ⟨1,4,.int .i32,[.int .i32 0],false,none⟩/\G.ti 22=tS 47/\G.ti 23=tT 2 16 [(0,1,3),(1,1,3)] [xW,xW]/\G.ti 24=tT 2 16 [(0,1,3),(1,1,3)] [xW,xW]/\G.ti 25=tS 43/\G.ti 26=tF/\G.ti 27=tF/\G.ti 28=tF/\G.ti 29=tS 87/\G.ti 30=tS 37/\G.ti 31=tT 3 64 [(0,1,9),(1,1,29),(2,1,30)] [tZ,kq,kq]/\G.ti 32=tT 3 64 [(0,1,9),(1,1,29),(2,1,30)] [tZ,kq,kq]/\G.ti 33=tF/\G.ti 34=tF/\G.ti 35=tS 68/\G.ti 36=tT 2 32 [(0,1,3),(1,1,35)] [xW,kq]/\G.ti 37=tT 2 32 [(0,1,3),(1,1,35)] [xW,kq]/\G.ti 39=tF/\G.ti 40=tF/\G.ti 41=tF:=by repeat' (first|apply And.intro|kernel_rfl)
theorem tiA1:G.ti 42=tT 3 32 [(0,2,24),(2,1,9)] [xW,xW,tZ]/\G.ti 43=tT 3 32 [(0,2,24),(2,1,9)] [xW,xW,tZ]/\G.ti 44=tF/\G.ti 45=tF/\G.ti 46=tT 7 104 [(0,1,3),(1,1,9),(2,1,9),(3,1,3),(4,1,4),(5,1,25),(6,1,29)] [xW,tZ,tZ,xW,bD,kq,kq]/\G.ti 47=tT 7 104 [(0,1,3),(1,1,9),(2,1,9),(3,1,3),(4,1,4),(5,1,25),(6,1,29)] [xW,tZ,tZ,xW,bD,kq,kq]/\G.ti 48=some ⟨1,8,.int .i64,[.int .i64 0],false,none⟩/\G.ti 50=tF/\G.ti 51=tF/\G.ti 52=tF/\G.ti 53=tP 60/\G.ti 55=tF/\G.ti 56=tF/\G.ti 57=tS 97/\G.ti 58=tS 32/\G.ti 59=tT 6 136 [(0,3,32),(3,1,57),(4,1,58),(5,1,58)] [tZ,kq,kq,kq,kq,kq]/\G.ti 60=tT 6 136 [(0,3,32),(3,1,57),(4,1,58),(5,1,58)] [tZ,kq,kq,kq,kq,kq]/\G.ti 61=tF/\G.ti 62=tS 24/\G.ti 63=tF/\G.ti 64=tF/\G.ti 65=some ⟨1,8,.int .u64,[.int .u64 0],false,none⟩/\G.ti 66=tS 78/\G.ti 67=tT 3 40 [(0,2,24),(2,1,66)] [xW,xW,kq]/\G.ti 68=tT 3 40 [(0,2,24),(2,1,66)] [xW,xW,kq]/\G.ti 69=tS 348/\G.ti 70=tS 72/\G.ti 71=tT 8 104 [(0,1,3),(1,1,9),(2,1,4),(3,1,69),(4,1,3),(5,1,3),(6,1,4),(7,1,70)] [xW,tZ,bD,kq,xW,xW,bD,kq]/\G.ti 72=tT 8 104 [(0,1,3),(1,1,9),(2,1,4),(3,1,69),(4,1,3),(5,1,3),(6,1,4),(7,1,70)] [xW,tZ,bD,kq,xW,xW,bD,kq]/\G.ti 73=tS 221/\G.ti 74=tT 11 136 [(0,8,72),(8,1,73),(9,1,4),(10,1,4)] [xW,tZ,bD,kq,xW,xW,bD,kq,kq,bD,bD]/\G.ti 75=tT 11 136 [(0,8,72),(8,1,73),(9,1,4),(10,1,4)] [xW,tZ,bD,kq,xW,xW,bD,kq,kq,bD,bD]/\G.ti 76=tS 9/\G.ti 77=tT 18 200 [(0,2,24),(2,1,3),(3,1,3),(4,1,4),(5,1,4),(6,11,75),(17,1,76)] [xW,xW,xW,xW,bD,bD,xW,tZ,bD,kq,xW,xW,bD,kq,kq,bD,bD,kq]/\G.ti 78=tT 18 200 [(0,2,24),(2,1,3),(3,1,3),(4,1,4),(5,1,4),(6,11,75),(17,1,76)] [xW,xW,xW,xW,bD,bD,xW,tZ,bD,kq,xW,xW,bD,kq,kq,bD,bD,kq]/\G.ti 79=tF/\G.ti 80=tF/\G.ti 81=tP 107/\G.ti 82=tF/\G.ti 83=tF:=by repeat' (first|apply And.intro|kernel_rfl)
theorem tiA2:G.ti 84=tF/\G.ti 85=tF/\G.ti 86=tT 2 16 [(0,1,3),(1,1,3)] [xW,xW]/\G.ti 87=tT 2 16 [(0,1,3),(1,1,3)] [xW,xW]/\G.ti 89=tF/\G.ti 90=tF/\G.ti 91=tF/\G.ti 92=tF/\G.ti 93=tF/\G.ti 95=tF/\G.ti 96=tT 2 32 [(0,1,9),(1,1,9)] [tZ,tZ]/\G.ti 97=tT 2 32 [(0,1,9),(1,1,9)] [tZ,tZ]/\G.ti 99=tF/\G.ti 100=tF/\G.ti 101=tF/\G.ti 102=tF/\G.ti 103=tF/\G.ti 104=tF/\G.ti 105=tS 111/\G.ti 106=tT 3 64 [(0,1,9),(1,1,29),(2,1,105)] [tZ,kq,kq]/\G.ti 107=tT 3 64 [(0,1,9),(1,1,29),(2,1,105)] [tZ,kq,kq]/\G.ti 108=tF/\G.ti 109=tS 118/\G.ti 110=tT 3 56 [(0,2,37),(2,1,109)] [xW,kq,kq]/\G.ti 111=tT 3 56 [(0,2,37),(2,1,109)] [xW,kq,kq]/\G.ti 112=tF/\G.ti 113=tF/\G.ti 114=tF/\G.ti 115=tS 3/\G.ti 116=tF/\G.ti 117=tF/\G.ti 118=tS 160/\G.ti 119=tF/\G.ti 120=tF/\G.ti 121=some ⟨1,8,.map 3 3,[.gG],false,none⟩/\G.ti 123=tF/\G.ti 124=tF/\G.ti 125=tF/\G.ti 126=tF/\G.ti 127=tF:=by repeat' (first|apply And.intro|kernel_rfl)
theorem tiA3:G.ti 128=tF/\G.ti 129=tF/\G.ti 130=tF/\G.ti 131=tS 182/\G.ti 133=tF/\G.ti 134=tF/\G.ti 135=tF/\G.ti 136=tF/\G.ti 137=tF/\G.ti 138=tF/\G.ti 139=tF/\G.ti 140=tF/\G.ti 141=tF/\G.ti 142=tF/\G.ti 143=tF/\G.ti 144=tF/\G.ti 145=tF/\G.ti 146=tS 148/\G.ti 147=tF/\G.ti 148=some ⟨2,16,.array 2 3,[.int .i64 0,.int .i64 0],false,none⟩/\G.ti 149=tF/\G.ti 150=tF/\G.ti 151=tF/\G.ti 152=tF/\G.ti 153=tF/\G.ti 154=tF/\G.ti 155=tF/\G.ti 156=tF/\G.ti 157=tF/\G.ti 158=tS 4/\G.ti 159=tT 2 16 [(0,1,3),(1,1,4)] [xW,bD]/\G.ti 160=tT 2 16 [(0,1,3),(1,1,4)] [xW,bD]/\G.ti 161=tF/\G.ti 163=tF/\G.ti 164=tF/\G.ti 165=tF/\G.ti 166=tF/\G.ti 167=tF/\G.ti 168=tF/\G.ti 169=tF:=by repeat' (first|apply And.intro|kernel_rfl)
theorem tiA4:G.ti 170=tF/\G.ti 171=tP 175/\G.ti 172=tF/\G.ti 173=tS 204/\G.ti 174=tT 4 88 [(0,3,32),(3,1,173)] [tZ,kq,kq,kq]/\G.ti 175=tT 4 88 [(0,3,32),(3,1,173)] [tZ,kq,kq,kq]/\G.ti 177=tF/\G.ti 178=tP 180/\G.ti 179=tT 3 64 [(0,1,9),(1,1,131),(2,1,115)] [tZ,kq,kq]/\G.ti 180=tT 3 64 [(0,1,9),(1,1,131),(2,1,115)] [tZ,kq,kq]/\G.ti 181=tT 18 224 [(0,1,3),(1,1,9),(2,1,3),(3,1,4),(4,1,4),(5,11,75),(16,1,76),(17,1,131)] [xW,tZ,xW,bD,bD,xW,tZ,bD,kq,xW,xW,bD,kq,kq,bD,bD,kq,kq]/\G.ti 182=tT 18 224 [(0,1,3),(1,1,9),(2,1,3),(3,1,4),(4,1,4),(5,11,75),(16,1,76),(17,1,131)] [xW,tZ,xW,bD,bD,xW,tZ,bD,kq,xW,xW,bD,kq,kq,bD,bD,kq,kq]/\G.ti 184=tF/\G.ti 186=tF/\G.ti 187=tF/\G.ti 188=tF/\G.ti 190=tF/\G.ti 191=tS 66/\G.ti 192=tF/\G.ti 193=tF/\G.ti 195=tF/\G.ti 197=tF/\G.ti 198=tF/\G.ti 199=tF/\G.ti 200=tF/\G.ti 201=tF/\G.ti 203=tF/\G.ti 204=tS 115/\G.ti 205=tT 6 72 [(0,3,43),(3,1,204),(4,1,3),(5,1,3)] [xW,xW,tZ,kq,xW,xW]/\G.ti 206=tT 6 72 [(0,3,43),(3,1,204),(4,1,3),(5,1,3)] [xW,xW,tZ,kq,xW,xW]/\G.ti 207=tF/\G.ti 209=tF/\G.ti 210=tF/\G.ti 211=tF/\G.ti 212=tF/\G.ti 213=tS 218/\G.ti 215=tF/\G.ti 216=tS 5/\G.ti 217=tT 3 40 [(0,2,24),(2,1,62)] [xW,xW,kq]/\G.ti 218=tT 3 40 [(0,2,24),(2,1,62)] [xW,xW,kq]:=by repeat' (first|apply And.intro|kernel_rfl)
theorem tiA5:G.ti 219=tF/\G.ti 220=tT 5 56 [(0,1,3),(1,1,3),(2,1,3),(3,1,9),(4,1,9)] [xW,xW,xW,tZ,tZ]/\G.ti 221=tT 5 56 [(0,1,3),(1,1,3),(2,1,3),(3,1,9),(4,1,9)] [xW,xW,xW,tZ,tZ]/\G.ti 222=tF/\G.ti 223=tF/\G.ti 224=tF/\G.ti 225=tF/\G.ti 226=tF/\G.ti 227=tF/\G.ti 229=tF/\G.ti 230=tF/\G.ti 231=tF/\G.ti 232=tF/\G.ti 233=tF/\G.ti 235=tF/\G.ti 237=tF/\G.ti 238=tF/\G.ti 239=tF/\G.ti 240=tF/\G.ti 241=tF/\G.ti 242=tT 4 32 [(0,1,3),(1,1,3),(2,1,3),(3,1,3)] [xW,xW,xW,xW]/\G.ti 243=tT 4 32 [(0,1,3),(1,1,3),(2,1,3),(3,1,3)] [xW,xW,xW,xW]/\G.ti 244=tF/\G.ti 245=tP 248/\G.ti 246=tS 251/\G.ti 247=tT 6 128 [(0,1,57),(1,1,9),(2,1,9),(3,1,246),(4,1,115),(5,1,76)] [kq,tZ,tZ,kq,kq,kq]/\G.ti 248=tT 6 128 [(0,1,57),(1,1,9),(2,1,9),(3,1,246),(4,1,115),(5,1,76)] [kq,tZ,tZ,kq,kq,kq]/\G.ti 249=tF/\G.ti 250=tT 20 216 [(0,1,3),(1,1,9),(2,1,3),(3,1,4),(4,1,4),(5,1,4),(6,11,75),(17,1,76),(18,1,3),(19,1,3)] [xW,tZ,xW,bD,bD,bD,xW,tZ,bD,kq,xW,xW,bD,kq,kq,bD,bD,kq,xW,xW]/\G.ti 251=tT 20 216 [(0,1,3),(1,1,9),(2,1,3),(3,1,4),(4,1,4),(5,1,4),(6,11,75),(17,1,76),(18,1,3),(19,1,3)] [xW,tZ,xW,bD,bD,bD,xW,tZ,bD,kq,xW,xW,bD,kq,kq,bD,bD,kq,xW,xW]/\G.ti 252=tP 254/\G.ti 253=tT 2 48 [(0,1,115),(1,1,76)] [kq,kq]/\G.ti 254=tT 2 48 [(0,1,115),(1,1,76)] [kq,kq]/\G.ti 255=tF/\G.ti 257=tF/\G.ti 258=tF/\G.ti 259=tF/\G.ti 260=tF/\G.ti 261=tF/\G.ti 262=tF:=by repeat' (first|apply And.intro|kernel_rfl)
theorem tiA6:G.ti 263=tF/\G.ti 264=some ⟨1,4,.int .u32,[.int .u32 0],false,none⟩/\G.ti 266=tF/\G.ti 267=some ⟨1,8,.int .u64,[.int .u64 0],false,none⟩/\G.ti 269=tF/\G.ti 270=tF/\G.ti 271=tF/\G.ti 272=tP 206/\G.ti 273=tF/\G.ti 274=tF/\G.ti 275=tF/\G.ti 276=tF/\G.ti 277=tF/\G.ti 278=tF/\G.ti 279=tF/\G.ti 281=tF/\G.ti 282=tP 284/\G.ti 283=tT 2 32 [(0,1,282),(1,1,216)] [.jk,kq]/\G.ti 284=tT 2 32 [(0,1,282),(1,1,216)] [.jk,kq]/\G.ti 285=some ⟨1,16,.other,[.dT],false,none⟩/\G.ti 286=some ⟨1,16,.other,[.dT],false,none⟩/\G.ti 288=tF/\G.ti 289=tF/\G.ti 290=tF/\G.ti 291=tF/\G.ti 292=tF/\G.ti 293=tF/\G.ti 294=tF/\G.ti 295=tF/\G.ti 297=tF/\G.ti 298=tF/\G.ti 299=tF/\G.ti 300=tF/\G.ti 301=tF/\G.ti 302=tF/\G.ti 303=tF/\G.ti 305=tF/\G.ti 307=tF/\G.ti 309=tF/\G.ti 311=tF:=by repeat' (first|apply And.intro|kernel_rfl)
theorem tiA7:G.ti 312=tF/\G.ti 313=tF/\G.ti 314=tF/\G.ti 315=tF/\G.ti 316=tF/\G.ti 317=tF/\G.ti 318=tF/\G.ti 319=tF/\G.ti 320=tF/\G.ti 321=some ⟨1,8,.int .i64,[.int .i64 0],false,none⟩/\G.ti 323=tF/\G.ti 324=tF/\G.ti 325=tF/\G.ti 326=tF/\G.ti 327=tF/\G.ti 328=tF/\G.ti 329=tF/\G.ti 330=tF/\G.ti 331=tP 337/\G.ti 332=tF/\G.ti 333=tS 335/\G.ti 334=tT 11 144 [(0,8,72),(8,1,333),(9,1,3),(10,1,3)] [xW,tZ,bD,kq,xW,xW,bD,kq,kq,xW,xW]/\G.ti 335=tT 11 144 [(0,8,72),(8,1,333),(9,1,3),(10,1,3)] [xW,tZ,bD,kq,xW,xW,bD,kq,kq,xW,xW]/\G.ti 336=tT 17 240 [(0,11,335),(11,1,4),(12,1,76),(13,1,115),(14,1,62),(15,1,3),(16,1,4)] [xW,tZ,bD,kq,xW,xW,bD,kq,kq,xW,xW,bD,kq,kq,kq,xW,bD]/\G.ti 337=tT 17 240 [(0,11,335),(11,1,4),(12,1,76),(13,1,115),(14,1,62),(15,1,3),(16,1,4)] [xW,tZ,bD,kq,xW,xW,bD,kq,kq,xW,xW,bD,kq,kq,kq,xW,bD]/\G.ti 339=tF/\G.ti 340=tF/\G.ti 341=tF/\G.ti 342=tF/\G.ti 343=tF/\G.ti 344=tF/\G.ti 345=tP 5/\G.ti 346=tF/\G.ti 347=tT 2 32 [(0,1,9),(1,1,9)] [tZ,tZ]/\G.ti 348=tT 2 32 [(0,1,9),(1,1,9)] [tZ,tZ]/\G.ti 349=tS 386/\G.ti 350=tF/\G.ti 351=tF/\G.ti 352=tF/\G.ti 353=tF:=by repeat' (first|apply And.intro|kernel_rfl)
theorem tiA8:G.ti 354=tF/\G.ti 355=tF/\G.ti 356=tS 359/\G.ti 358=tF/\G.ti 359=tT 3 40 [(0,2,24),(2,1,62)] [xW,xW,kq]/\G.ti 361=tF/\G.ti 362=tF/\G.ti 363=tP 366/\G.ti 364=tF/\G.ti 365=tT 2 32 [(0,1,76),(1,1,3)] [kq,xW]/\G.ti 366=tT 2 32 [(0,1,76),(1,1,3)] [kq,xW]/\G.ti 367=tF/\G.ti 369=tF/\G.ti 370=tF/\G.ti 371=tF/\G.ti 372=tF/\G.ti 373=some ⟨1,8,.int .u64,[.int .u64 0],false,none⟩/\G.ti 374=tF/\G.ti 375=tF/\G.ti 376=tF/\G.ti 377=tP 3/\G.ti 378=tF/\G.ti 379=tF/\G.ti 380=tF/\G.ti 381=tF/\G.ti 383=tF/\G.ti 384=tF/\G.ti 385=tT 3 24 [(0,2,24),(2,1,3)] [xW,xW,xW]/\G.ti 386=tT 3 24 [(0,2,24),(2,1,3)] [xW,xW,xW]/\G.ti 387=tF/\G.ti 388=tP 391/\G.ti 389=tF/\G.ti 390=tT 5 72 [(0,1,76),(1,1,115),(2,1,4),(3,1,3),(4,1,4)] [kq,kq,bD,xW,bD]/\G.ti 391=tT 5 72 [(0,1,76),(1,1,115),(2,1,4),(3,1,3),(4,1,4)] [kq,kq,bD,xW,bD]/\G.ti 393=tF/\G.ti 394=tF/\G.ti 395=tF/\G.ti 396=tF/\G.ti 397=tF/\G.ti 398=tP 373:=by repeat' (first|apply And.intro|kernel_rfl)
theorem tiA9:G.ti 399=tF/\G.ti 400=tF/\G.ti 401=tF/\G.ti 402=tF/\G.ti 403=tF/\G.ti 404=tF/\G.ti 405=tF/\G.ti 406=tF/\G.ti 407=tF/\G.ti 408=tF/\G.ti 409=tF/\G.ti 410=tF/\G.ti 411=tF/\G.ti 412=tF/\G.ti 414=tF/\G.ti 415=tP 417/\G.ti 416=tT 13 144 [(0,1,3),(1,8,72),(9,1,3),(10,1,3),(11,1,3),(12,1,415)] [xW,xW,tZ,bD,kq,xW,xW,bD,kq,xW,xW,xW,.jk]/\G.ti 417=tT 13 144 [(0,1,3),(1,8,72),(9,1,3),(10,1,3),(11,1,3),(12,1,415)] [xW,xW,tZ,bD,kq,xW,xW,bD,kq,xW,xW,xW,.jk]/\G.ti 418=tF/\G.ti 419=tF/\G.ti 420=tF/\G.ti 421=tF/\G.ti 422=tF/\G.ti 423=tF/\G.ti 425=tF/\G.ti 427=tF/\G.ti 428=tF/\G.ti 429=tF/\G.ti 430=tF/\G.ti 431=some ⟨4,40,.struct [(0,1,17),(1,1,17),(2,1,17),(3,1,9)],[.jk,.jk,.jk,.str []],false,none⟩/\G.ti 432=some ⟨4,40,.struct [(0,1,17),(1,1,17),(2,1,17),(3,1,9)],[.jk,.jk,.jk,.str []],false,none⟩/\G.ti 433=some ⟨0,0,.array 0 16,[],false,none⟩/\G.ti 434=some ⟨0,0,.struct [(0,0,433)],[],false,none⟩/\G.ti 435=some ⟨0,0,.struct [(0,0,433)],[],false,none⟩/\G.ti 436=some ⟨1,1,.int .u8,[.int .u8 0],false,none⟩/\G.ti 437=some ⟨1,1,.int .u8,[.int .u8 0],false,none⟩/\G.ti 438=tF/\G.ti 439=some ⟨1,4,.int .i32,[.int .i32 0],false,none⟩/\G.ti 440=some ⟨1,4,.int .i32,[.int .i32 0],false,none⟩/\G.ti 441=some ⟨11,48,.struct [(0,1,12),(1,1,12),(2,1,264),(3,1,436),(4,1,5),(5,1,5),(6,1,437),(7,1,438),(8,1,345),(9,1,439),(10,1,440)],[.int .u64 0,.int .u64 0,.int .u32 0,.int .u8 0,.int .u8 0,.int .u8 0,.int .u8 0,.rX,.jk,.int .i32 0,.int .i32 0],false,none⟩:=by repeat' (first|apply And.intro|kernel_rfl)
theorem tiA10:G.ti 442=some ⟨11,48,.struct [(0,1,12),(1,1,12),(2,1,264),(3,1,436),(4,1,5),(5,1,5),(6,1,437),(7,1,438),(8,1,345),(9,1,439),(10,1,440)],[.int .u64 0,.int .u64 0,.int .u32 0,.int .u8 0,.int .u8 0,.int .u8 0,.int .u8 0,.rX,.jk,.int .i32 0,.int .i32 0],false,none⟩:=by repeat' (first|apply And.intro|kernel_rfl)
instance:zM G 3 (qQ Tryz.f3):=zR
instance:zM G 4 (qQ Tryz.f4):=zR
instance:zM G 5 (qQ Tryz.f5):=zR
instance:zM G 6 (qQ Tryz.f6):=zR
instance:zM G 7 (qQ Tryz.f7):=zR
instance:zM G 8 (qQ Tryz.f8):=zR
instance:zM G 9 (qQ Tryz.f9):=zR
instance:zM G 10 (qQ Tryz.f10):=zR
instance:zM G 11 (qQ Tryz.f11):=zR
instance:zM G 12 (qQ Tryz.f12):=zR
instance:zM G 13 (qQ Tryz.f13):=zR
instance:zM G 17 (qQ Tryz.f17):=zR
instance:zM G 18 (qQ Tryz.f18):=zR
instance:zM G 19 (qQ Tryz.f19):=zR
instance:zM G 20 (qQ Tryz.f20):=zR
instance:zM G 21 (qQ Tryz.f21):=zR
instance:zM G 22 (qQ Tryz.f22):=zR
instance:zM G 23 (qQ Tryz.f23):=zR
instance:zM G 36 (qQ Tryz.f36):=zR
instance:zM G 37 (qQ Tryz.f37):=zR
instance:zM G 55 (qQ Tryz.f55):=zR
instance:zM G 56 (qQ Tryz.f56):=zR
instance:zM G 57 (qQ Tryz.f57):=zR
instance:zM G 58 (qQ Tryz.f58):=zR
instance:zM G 59 (qQ Tryz.f59):=zR
instance:zM G 60 (qQ Tryz.f60):=zR
instance:zM G 61 (qQ Tryz.f61):=zR
instance:zM G 62 (qQ Tryz.f62):=zR
instance:zM G 63 (qQ Tryz.f63):=zR
instance:zM G 64 (qQ Tryz.f64):=zR
instance:zM G 65 (qQ Tryz.f65):=zR
instance:zM G 66 (qQ Tryz.f66):=zR
instance:zM G 93 (qQ Tryz.f93):=zR
instance:zM G 94 (qQ Tryz.f94):=zR
instance:zM G 95 (qQ Tryz.f95):=zR
instance:zM G 96 (qQ Tryz.f96):=zR
instance:zM G 97 (qQ Tryz.f97):=zR
instance:zM G 98 (qQ Tryz.f98):=zR
instance:zM G 99 (qQ Tryz.f99):=zR
instance:zM G 100 (qQ Tryz.f100):=zR
instance:zM G 101 (qQ Tryz.f101):=zR
instance:zM G 102 (qQ Tryz.f102):=zR
instance:zM G 103 (qQ Tryz.f103):=zR
instance:zM G 104 (qQ Tryz.f104):=zR
instance:zM G 105 (qQ Tryz.f105):=zR
instance:zM G 106 (qQ Tryz.f106):=zR
instance:zM G 107 (qQ Tryz.f107):=zR
instance:zM G 108 (qQ Tryz.f108):=zR
instance:zM G 109 (qQ Tryz.f109):=zR
instance:zM G 110 (qQ Tryz.f110):=zR
instance:zM G 111 (qQ Tryz.f111):=zR
instance:zM G 112 (qQ Tryz.f112):=zR
instance:zM G 113 (qQ Tryz.f113):=zR
instance:zM G 114 (qQ Tryz.f114):=zR
instance:zM G 115 (qQ Tryz.f115):=zR
instance:zM G 116 (qQ Tryz.f116):=zR
instance:zM G 117 (qQ Tryz.f117):=zR
instance:zM G 118 (qQ Tryz.f118):=zR
instance:zM G 119 (qQ Tryz.f119):=zR
instance:zM G 120 (qQ Tryz.f120):=zR
instance:zM G 138 (qQ Tryz.f138):=zR
instance:zM G 139 (qQ Tryz.f139):=zR
instance:zM G 140 (qQ Tryz.f140):=zR
instance:zM G 141 (qQ Tryz.f141):=zR
instance:zM G 142 (qQ Tryz.f142):=zR
instance:zM G 143 (qQ Tryz.f143):=zR
instance:zM G 144 (qQ Tryz.f144):=zR
instance:zM G 145 (qQ Tryz.f145):=zR
instance:zM G 146 (qQ Tryz.f146):=zR
instance:zM G 147 (qQ Tryz.f147):=zR
instance:zM G 148 (qQ Tryz.f148):=zR
instance:zM G 149 (qQ Tryz.f149):=zR
instance:zM G 150 (qQ Tryz.f150):=zR
instance:zM G 151 (qQ Tryz.f151):=zR
instance:zM G 152 (qQ Tryz.f152):=zR
instance:zM G 153 (qQ Tryz.f153):=zR
instance fn154:zM G 154 (qQ Tryz.f154):=zR
instance:zM G 155 (qQ Tryz.f155):=zR
instance:zM G 156 (qQ Tryz.f156):=zR
instance:zM G 157 (qQ Tryz.f157):=zR
instance:zM G 158 (qQ Tryz.f158):=zR
instance:zM G 159 (qQ Tryz.f159):=zR
instance:zM G 160 (qQ Tryz.f160):=zR
instance:zM G 161 (qQ Tryz.f161):=zR
instance:zM G 162 (qQ Tryz.f162):=zR
instance:zM G 163 (qQ Tryz.f163):=zR
instance:zM G 164 (qQ Tryz.f164):=zR
instance:zM G 165 (qQ Tryz.f165):=zR
instance:zM G 166 (qQ Tryz.f166):=zR
instance:zM G 167 (qQ Tryz.f167):=zR
instance:zM G 168 (qQ Tryz.f168):=zR
instance:zM G 169 (qQ Tryz.f169):=zR
instance:zM G 170 (qQ Tryz.f170):=zR
instance:zM G 171 (qQ Tryz.f171):=zR
instance Jy:zM G 172 (qQ Tryz.f172):=zR
instance:zM G 173 (qQ Tryz.f173):=zR
instance:zM G 174 (qQ Tryz.f174):=zR
instance:zM G 199 (qQ Tryz.f199):=zR
instance:zM G 200 (qQ Tryz.f200):=zR
instance:zM G 201 (qQ Tryz.f201):=zR
instance:zM G 202 (qQ Tryz.f202):=zR
instance:zM G 203 (qQ Tryz.f203):=zR
instance:zM G 204 (qQ Tryz.f204):=zR
instance:zM G 205 (qQ Tryz.f205):=zR
instance:zM G 206 (qQ Tryz.f206):=zR
instance:zM G 207 (qQ Tryz.f207):=zR
instance:zM G 208 (qQ Tryz.f208):=zR
instance:zM G 209 (qQ Tryz.f209):=zR
instance:zM G 210 (qQ Tryz.f210):=zR
instance:zM G 211 (qQ Tryz.f211):=zR
instance:zM G 212 (qQ Tryz.f212):=zR
instance:zM G 213 (qQ Tryz.f213):=zR
instance:zM G 214 (qQ Tryz.f214):=zR
instance:zM G 215 (qQ Tryz.f215):=zR
instance:zM G 216 (qQ Tryz.f216):=zR
instance:zM G 217 (qQ Tryz.f217):=zR
instance:zM G 218 (qQ Tryz.f218):=zR
instance:zM G 219 (qQ Tryz.f219):=zR
instance:zM G 220 (qQ Tryz.f220):=zR
instance:zM G 221 (qQ Tryz.f221):=zR
instance:zM G 222 (qQ Tryz.f222):=zR
instance:zM G 223 (qQ Tryz.f223):=zR
instance:zM G 224 (qQ Tryz.f224):=zR
instance:zM G 225 (qQ Tryz.f225):=zR
instance:zM G 226 (qQ Tryz.f226):=zR
instance:zM G 227 (qQ Tryz.f227):=zR
instance:zM G 255 (qQ Tryz.f255):=zR
instance:zM G 256 (qQ Tryz.f256):=zR
instance:zM G 257 (qQ Tryz.f257):=zR
instance:zM G 258 (qQ Tryz.f258):=zR
instance:zM G 259 (qQ Tryz.f259):=zR
instance:zM G 260 (qQ Tryz.f260):=zR
instance:zM G 261 (qQ Tryz.f261):=zR
instance:zM G 262 (qQ Tryz.f262):=zR
instance:zM G 263 (qQ Tryz.f263):=zR
instance:zM G 264 (qQ Tryz.f264):=zR
instance:zM G 265 (qQ Tryz.f265):=zR
instance:zM G 266 (qQ Tryz.f266):=zR
instance:zM G 267 (qQ Tryz.f267):=zR
instance:zM G 268 (qQ Tryz.f268):=zR
instance:zM G 269 (qQ Tryz.f269):=zR
instance:zM G 270 (qQ Tryz.f270):=zR
instance:zM G 271 (qQ Tryz.f271):=zR
instance:zM G 272 (qQ Tryz.f272):=zR
instance:zM G 273 (qQ Tryz.f273):=zR
instance:zM G 296 (qQ Tryz.f296):=zR
instance:zM G 297 (qQ Tryz.f297):=zR
instance:zM G 298 (qQ Tryz.f298):=zR
instance:zM G 299 (qQ Tryz.f299):=zR
instance:zM G 300 (qQ Tryz.f300):=zR
instance:zM G 301 (qQ Tryz.f301):=zR
instance:zM G 302 (qQ Tryz.f302):=zR
instance:zM G 303 (qQ Tryz.f303):=zR
instance:zM G 304 (qQ Tryz.f304):=zR
instance:zM G 305 (qQ Tryz.f305):=zR
instance:zM G 306 (qQ Tryz.f306):=zR
instance:zM G 307 (qQ Tryz.f307):=zR
instance:zM G 308 (qQ Tryz.f308):=zR
instance:zM G 309 (qQ Tryz.f309):=zR
instance:zM G 310 (qQ Tryz.f310):=zR
instance:zM G 323 (qQ Tryz.f323):=zR
instance:zM G 324 (qQ Tryz.f324):=zR
instance:zM G 325 (qQ Tryz.f325):=zR
instance:zM G 326 (qQ Tryz.f326):=zR
instance:zM G 327 (qQ Tryz.f327):=zR
instance:zM G 328 (qQ Tryz.f328):=zR
instance:zM G 329 (qQ Tryz.f329):=zR
instance:zM G 330 (qQ Tryz.f330):=zR
instance:zM G 331 (qQ Tryz.f331):=zR
instance:zM G 343 (qQ Tryz.f343):=zR
instance:zM G 344 (qQ Tryz.f344):=zR
instance:zM G 345 (qQ Tryz.f345):=zR
instance:zM G 346 (qQ Tryz.f346):=zR
instance:zM G 347 (qQ Tryz.f347):=zR
instance:zM G 348 (qQ Tryz.f348):=zR
instance:zM G 349 (qQ Tryz.f349):=zR
instance:zM G 350 (qQ Tryz.f350):=zR
instance:zM G 351 (qQ Tryz.f351):=zR
instance:zM G 352 (qQ Tryz.f352):=zR
instance:zM G 353 (qQ Tryz.f353):=zR
instance:zM G 354 (qQ Tryz.f354):=zR
instance:zM G 363 (qQ Tryz.f363):=zR
instance:zM G 364 (qQ Tryz.f364):=zR
instance:zM G 365 (qQ Tryz.f365):=zR
instance:zM G 366 (qQ Tryz.f366):=zR
instance:zM G 367 (qQ Tryz.f367):=zR
instance:zM G 368 (qQ Tryz.f368):=zR
instance:zM G 369 (qQ Tryz.f369):=zR
instance:zM G 370 (qQ Tryz.f370):=zR
instance:zM G 373 (qQ Tryz.f373):=zR
instance:zM G 374 (qQ Tryz.f374):=zR
instance:zM G 375 (qQ Tryz.f375):=zR
instance:zM G 376 (qQ Tryz.f376):=zR
instance:zM G 377 (qQ Tryz.f377):=zR
instance:zM G 378 (qQ Tryz.f378):=zR
instance:zM G 379 (qQ Tryz.f379):=zR
end Go.Proofs.YtmllebdamdnhoaaGreat
namespace Go.Proofs.YtmllebdamdnhoaaGreat
open Go Go.Gm Go.RowKit Go.Maps Go.Sort Go.Shelf
def V2:Go.Shelf.Ren:=⟨fun|7=>81|10=>130|n=>n,fun|23=>121|26=>3|27=>152|28=>153|33=>157|n=>n,fun n=>n⟩
theorem keysA:SlLaysZI.n7 Tryz.prog V2 where
 mixed:=by kernel_rfl
 f7:=⟨Tryz.f81.name,by kernel_rfl,Tryz.func81.trans (congrArg some (by kernel_rfl))⟩
 f10:=⟨Tryz.f130.name,by kernel_rfl,Tryz.func130.trans (congrArg some (by kernel_rfl))⟩
 t0:=Tryz.underlying0
 a0:=Tryz.isAgg0
 z0:=Tryz.sizeOf0
 v0:=Tryz.zeroValue0
 t4:=Tryz.underlying4
 a4:=Tryz.isAgg4
 z4:=Tryz.sizeOf4
 v4:=Tryz.zeroValue4
 t23:=Tryz.underlying121
 a23:=Tryz.isAgg121
 z23:=Tryz.sizeOf121
 v23:=Tryz.zeroValue121
 t26:=Tryz.underlying3
 a26:=Tryz.isAgg3
 z26:=Tryz.sizeOf3
 v26:=Tryz.zeroValue3
 t27:=Tryz.underlying152
 a27:=Tryz.isAgg152
 z27:=Tryz.sizeOf152
 v27:=Tryz.zeroValue152
 t28:=Tryz.underlying153
 a28:=Tryz.isAgg153
 z28:=Tryz.sizeOf153
 v28:=Tryz.zeroValue153
 t33:=Tryz.underlying157
 a33:=Tryz.isAgg157
 z33:=Tryz.sizeOf157
 v33:=Tryz.zeroValue157
def X1:Go.Shelf.Ren:=⟨fun|6=>80|8=>128|9=>129|11=>185|12=>186|13=>187|14=>232|15=>233|16=>234|17=>235|18=>236|19=>237|20=>238|21=>239|22=>240|23=>241|24=>242|25=>276|26=>277|27=>278|28=>279|29=>280|30=>123|31=>311|n=>n,fun|24=>115|26=>3|28=>153|33=>157|37=>65|39=>321|40=>322|45=>122|48=>264|50=>267|51=>373|55=>377|57=>398|58=>38|n=>n,fun n=>n⟩
theorem sortedA:SlLaysZI.n6 Tryz.prog X1 where
 mixed:=by kernel_rfl
 f6:=⟨Tryz.f80.name,by kernel_rfl,Tryz.func80.trans (congrArg some (by kernel_rfl))⟩
 f8:=⟨Tryz.f128.name,by kernel_rfl,Tryz.func128.trans (congrArg some (by kernel_rfl))⟩
 f11:=⟨Tryz.f185.name,by kernel_rfl,Tryz.func185.trans (congrArg some (by kernel_rfl))⟩
 t0:=Tryz.underlying0
 a0:=Tryz.isAgg0
 z0:=Tryz.sizeOf0
 v0:=Tryz.zeroValue0
 t24:=Tryz.underlying115
 a24:=Tryz.isAgg115
 z24:=Tryz.sizeOf115
 v24:=Tryz.zeroValue115
 t26:=Tryz.underlying3
 a26:=Tryz.isAgg3
 z26:=Tryz.sizeOf3
 v26:=Tryz.zeroValue3
 t28:=Tryz.underlying153
 a28:=Tryz.isAgg153
 z28:=Tryz.sizeOf153
 v28:=Tryz.zeroValue153
 i26:=by kernel_rfl
def De:Go.Shelf.Ren:=⟨fun|5=>129|7=>186|8=>187|10=>232|11=>233|12=>234|13=>235|14=>236|15=>237|16=>238|17=>239|18=>240|19=>241|20=>242|30=>276|31=>277|32=>278|33=>279|34=>280|35=>123|40=>311|n=>n,fun|22=>115|23=>115|25=>3|32=>65|35=>321|36=>322|41=>122|44=>264|46=>267|53=>373|57=>377|63=>398|64=>38|n=>n,fun n=>n⟩
theorem sortA:SlLaysM.n5 Tryz.prog De where
 mixed:=by kernel_rfl
 f5:=⟨Tryz.f129.name,by kernel_rfl,Tryz.func129.trans (congrArg some (by kernel_rfl))⟩
 f7:=⟨Tryz.f186.name,by kernel_rfl,Tryz.func186.trans (congrArg some (by kernel_rfl))⟩
 f8:=Tryz.func187.trans (congrArg some (by kernel_rfl))
 f10:=⟨Tryz.f232.name,by kernel_rfl,Tryz.func232.trans (congrArg some (by kernel_rfl))⟩
 f11:=⟨Tryz.f233.name,by kernel_rfl,Tryz.func233.trans (congrArg some (by kernel_rfl))⟩
 f12:=⟨Tryz.f234.name,by kernel_rfl,Tryz.func234.trans (congrArg some (by kernel_rfl))⟩
 f13:=⟨Tryz.f235.name,by kernel_rfl,Tryz.func235.trans (congrArg some (by kernel_rfl))⟩
 f14:=⟨Tryz.f236.name,by kernel_rfl,Tryz.func236.trans (congrArg some (by kernel_rfl))⟩
 f15:=⟨Tryz.f237.name,by kernel_rfl,Tryz.func237.trans (congrArg some (by kernel_rfl))⟩
 f16:=⟨Tryz.f238.name,by kernel_rfl,Tryz.func238.trans (congrArg some (by kernel_rfl))⟩
 f17:=⟨Tryz.f239.name,by kernel_rfl,Tryz.func239.trans (congrArg some (by kernel_rfl))⟩
 f18:=⟨Tryz.f240.name,by kernel_rfl,Tryz.func240.trans (congrArg some (by kernel_rfl))⟩
 f19:=Tryz.func241.trans (congrArg some (by kernel_rfl))
 f20:=Tryz.func242.trans (congrArg some (by kernel_rfl))
 f30:=⟨Tryz.f276.name,by kernel_rfl,Tryz.func276.trans (congrArg some (by kernel_rfl))⟩
 f31:=Tryz.func277.trans (congrArg some (by kernel_rfl))
 f32:=Tryz.func278.trans (congrArg some (by kernel_rfl))
 f33:=⟨Tryz.f279.name,by kernel_rfl,Tryz.func279.trans (congrArg some (by kernel_rfl))⟩
 f34:=⟨Tryz.f280.name,by kernel_rfl,Tryz.func280.trans (congrArg some (by kernel_rfl))⟩
 f35:=⟨Tryz.f123.name,by kernel_rfl,Tryz.func123.trans (congrArg some (by kernel_rfl))⟩
 f40:=⟨Tryz.f311.name,by kernel_rfl,Tryz.func311.trans (congrArg some (by kernel_rfl))⟩
 t0:=Tryz.underlying0
 a0:=Tryz.isAgg0
 z0:=Tryz.sizeOf0
 v0:=Tryz.zeroValue0
 t3:=Tryz.underlying3
 a3:=Tryz.isAgg3
 z3:=Tryz.sizeOf3
 v3:=Tryz.zeroValue3
 t4:=Tryz.underlying4
 a4:=Tryz.isAgg4
 z4:=Tryz.sizeOf4
 v4:=Tryz.zeroValue4
 t5:=Tryz.underlying5
 a5:=Tryz.isAgg5
 z5:=Tryz.sizeOf5
 v5:=Tryz.zeroValue5
 t9:=Tryz.underlying9
 a9:=Tryz.isAgg9
 z9:=Tryz.sizeOf9
 v9:=Tryz.zeroValue9
 t22:=Tryz.underlying115
 a22:=Tryz.isAgg115
 z22:=Tryz.sizeOf115
 v22:=Tryz.zeroValue115
 t23:=Tryz.underlying115
 a23:=Tryz.isAgg115
 z23:=Tryz.sizeOf115
 v23:=Tryz.zeroValue115
 t25:=Tryz.underlying3
 a25:=Tryz.isAgg3
 z25:=Tryz.sizeOf3
 v25:=Tryz.zeroValue3
 t32:=Tryz.underlying65
 a32:=Tryz.isAgg65
 z32:=Tryz.sizeOf65
 v32:=Tryz.zeroValue65
 t35:=Tryz.underlying321
 a35:=Tryz.isAgg321
 z35:=Tryz.sizeOf321
 v35:=Tryz.zeroValue321
 t36:=Tryz.underlying322
 a36:=Tryz.isAgg322
 z36:=Tryz.sizeOf322
 v36:=Tryz.zeroValue322
 t41:=Tryz.underlying122
 a41:=Tryz.isAgg122
 z41:=Tryz.sizeOf122
 v41:=Tryz.zeroValue122
 t44:=Tryz.underlying264
 a44:=Tryz.isAgg264
 z44:=Tryz.sizeOf264
 v44:=Tryz.zeroValue264
 t46:=Tryz.underlying267
 a46:=Tryz.isAgg267
 z46:=Tryz.sizeOf267
 v46:=Tryz.zeroValue267
 t53:=Tryz.underlying373
 a53:=Tryz.isAgg373
 z53:=Tryz.sizeOf373
 v53:=Tryz.zeroValue373
 t57:=Tryz.underlying377
 a57:=Tryz.isAgg377
 z57:=Tryz.sizeOf377
 v57:=Tryz.zeroValue377
 t63:=Tryz.underlying398
 a63:=Tryz.isAgg398
 z63:=Tryz.sizeOf398
 v63:=Tryz.zeroValue398
 t64:=Tryz.underlying38
 a64:=Tryz.isAgg38
 z64:=Tryz.sizeOf38
 v64:=Tryz.zeroValue38
theorem sortsA(m:Nat):AnyZI.SortsIn Tryz.prog X1 Fence.wide m:=
 ⟨fun mW off cap ss W hH eY bO=>callsIn_wide.2 (AnyM.slices_Sort_int sortA mW off cap ss W hH eY bO),fun p cap W=>callsIn_wide.2 (AnyM.slices_Sort_int_none sortA p cap W)⟩
theorem Bo(l b nn:Nat)(D0:DataW Unit)(w:World)(hl:l<w.heap.size)(hc:w.cell? ⟨l,0,none⟩=some (.map (some b)))(G6:w.ownsMap Tryz.prog 3 (fun _=>some (.nil,[])) b nn D0)(hmax:Maps.size D0<=maxLen)(hbytes:Maps.size D0*8<=140737488355328):
  Calls Tryz.prog 80 #[.func (.func 130) #[] #[.pointer (some ⟨l,0,none⟩)]] w fun e w' => ∃(v:Value)(ss:List Int),e= .returned v/\ss.Perm (intKeys D0)/\
   w'.ownsRow w.heap.size 3 1 v ss.length ((ss.mergeSort (fun x y=>decide (x<=y))).map encZ)/\(v= .slice none 0 0↔ss=[])/\Below w.heap.size w w' :=by
 have hseq:SeqGives Fence.wide 2 Tryz.prog 130 #[.pointer (some ⟨l,0,none⟩)] encZ (fun ss=>ss.Perm (intKeys D0)) (Maps.size D0) w:=
  AnyZI.keys_gives (ρ:=V2) { keysA with } Fence.wide _ trivial rfl (by omega) l b nn D0 w hl hc G6
 have cS:=AnyZI.sorted_in sortedA Fence.wide 5 trivial trivial trivial trivial rfl (by omega) (sortsA _) (enters_of Tryz.func129 (by kernel_rfl) rfl) 130 #[.pointer (some ⟨l,0,none⟩)] trivial (enters_of Tryz.func130 (by kernel_rfl) rfl) _ _ hmax hbytes _ hseq;exact(callsIn_wide (n:=5)).1 cS
def yU(args:List AV)(H:qn):Option (AV×qn):=Kq 130 args H
theorem spS_ok{args:List AV}{H:qn}{r:AV}{H' :qn}(hg:yU args H=some (r,H')):enters Tryz.prog 80/\ic Tryz.prog 80 args H r H' :=by
 unfold yU at hg;exact Bp (kt:=3) Tryz.underlying3 ⟨_,Tryz.func80,by kernel_rfl,by kernel_rfl⟩ Bo hg
def Jk:Go.Shelf.Ren:=⟨fun|240=>249|276=>291|n=>n,fun|37=>216|70=>282|72=>284|164=>382|n=>n,fun n=>n⟩
theorem As:Lays.n240 Tryz.prog Jk where
 mixed:=by kernel_rfl
 f240:=Tryz.func249.trans (congrArg some (by kernel_rfl))
 f276:=Tryz.func291.trans (congrArg some (by kernel_rfl))
 t0:=Tryz.underlying0
 a0:=Tryz.isAgg0
 z0:=Tryz.sizeOf0
 v0:=Tryz.zeroValue0
 t4:=Tryz.underlying4
 a4:=Tryz.isAgg4
 z4:=Tryz.sizeOf4
 v4:=Tryz.zeroValue4
 t9:=Tryz.underlying9
 a9:=Tryz.isAgg9
 z9:=Tryz.sizeOf9
 v9:=Tryz.zeroValue9
 t20:=Tryz.underlying20
 a20:=Tryz.isAgg20
 z20:=Tryz.sizeOf20
 v20:=Tryz.zeroValue20
 t70:=Tryz.underlying282
 a70:=Tryz.isAgg282
 z70:=Tryz.sizeOf282
 v70:=Tryz.zeroValue282
 t72:=Tryz.underlying284
 a72:=Tryz.isAgg284
 z72:=Tryz.sizeOf284
 v72:=Tryz.zeroValue284
 t164:=Tryz.underlying382
 a164:=Tryz.isAgg382
 z164:=Tryz.sizeOf382
 v164:=Tryz.zeroValue382
theorem Au:Builder.X72 Tryz.prog Jk:=⟨by kernel_rfl,by kernel_rfl⟩
theorem spC_ok{args:List AV}{H:qn}{r:AV}{H' :qn}(hg:XR 284 args H=some (r,H')):enters Tryz.prog 249/\ic Tryz.prog 249 args H r H' :=
 Pr ⟨_,Tryz.func249,by kernel_rfl,by kernel_rfl⟩ (fun b w h=>Any.Builder_copyCheck_used As Au b w h) (fun b w h1 h2 h3=>Any.Builder_copyCheck_fresh As Au b w h1 h2 h3) hg
def S:nI:=⟨fun f=>if f=80 then some yU else if f=249 then some (XR 284)else none⟩
theorem S_ok:o8 Tryz.prog S:=fun f g h args H r H' hg=>by
 simp only[S]at h;split at h
 ·rename_i hf;subst hf;cases h;exact spS_ok hg
 split at h
 ·rename_i hf;subst hf;cases h;exact spC_ok hg
 cases h
noncomputable abbrev O:zS:=omega G S
end Go.Proofs.YtmllebdamdnhoaaGreat
