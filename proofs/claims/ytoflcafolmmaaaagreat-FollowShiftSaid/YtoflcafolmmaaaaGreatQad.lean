/-
  Go's structs as Lean's.
-/
import Derived.Test.YtoflcafolmmaaaaGreatQac
import Derived.Test.YtoflcafolmmaaaaGreatRows
import Derived.Shelf.SlIterI.Nil
import Derived.Shelf.SortM.Plain
import Derived.Shelf.SortM.SortNone
import Derived.Shelf.Lays
import Derived.Shelf.Strings.Builder1
import Derived.Shelf.Strings.BuilderX
open And renaming intro->h?
open Go.Gm.AV renaming cells->y!
open Go.Gm.PV renaming int->n?,sl->i?,bool->Z?,str->R?
open Go.IntKind renaming i64->q?,u8->P?,signed->O'
open List renaming map->w?,replicate->b?,range->E?,all_eq_true->Z!,map_set->J_,map_drop->q1a,map_take->q1b
open Option renaming bind_eq_some_iff->R!
set_option linter.unusedSimpArgs false
set_option linter.unusedVariables false
namespace Go.Gm
open Go
abbrev qa:=List UInt8
structure Sl (α:Type) where
 nil:Bool
 l:List α
 deriving Inhabited,DecidableEq
def aw(s:qa):List PV:=[.str s]
def zK(n:Int):List PV:=[.int .i64 n]
def kE(k:IntKind)(n:Int):List PV:=[.int k n]
def Bk(b:Bool):List PV:=[.bool b]
def J4(b:UInt8):List PV:=[.int .u8 b.toNat]
def my{α:Type}(k:Nat)(e:α->List PV)(s:Sl α):List PV:=[.sl s.nil (zT k s.l) (w? e s.l)]
def O2{α:Type}(e:α->List PV)(s:α×α):List PV:=e s.1++e s.2
abbrev az:Prop:= ∀x:Bool,(x&&true)=x
def qh{α:Type}(l:List α)(i:Int):Option α:=if 0<=i then l[i.toNat]? else none
def kv{α:Type}(l:List α)(lo hi:Int):Option (List α):=if(0<=lo/\0<=hi)/\(lo.toNat<=hi.toNat/\hi.toNat<=l.length)then some ((l.take hi.toNat).drop lo.toNat)else none
def mo{α:Type}(l:List α)(lo:Int):Option (List α):=if 0<=lo/\lo.toNat<=l.length then some (l.drop lo.toNat)else none
def kQ{α:Type}(l:List α)(hi:Int):Option (List α):=if 0<=hi/\hi.toNat<=l.length then some (l.take hi.toNat)else none
def u8(n:Int):UInt8:=UInt8.ofNat n.toNat
def WG(n b:Nat):Bool:=qg n b
section
variable {α:Type} {l:List α} {i lo hi:Int} {x:α} {r:List α}
theorem lJ(h:qh l i=some x)(k:IntKind):vM (.pv (.int k i))=some i.toNat:=by unfold qh at h;split at h;rename_i h0;simp[vM,h0];cases h
theorem q05(k:IntKind){n:Int}(h:0<=n):vM (.pv (.int k n))=some n.toNat:=by simp[vM,h]
theorem oo(h:qh l i=some x):l[i.toNat]? =some x:=by unfold qh at h;split at h;exact h;cases h
theorem lI{β:Type}(e:α->β)(h:qh l i=some x):(w? e l)[i.toNat]? =some (e x):=by simp[oo h]
theorem UT(h:qh l i=some x):l.isEmpty=false:=by have:=oo h;cases l<;>simp_all
theorem ZO(h:qh l i=some x)(k:Nat):zT k l=k:=by have:=oo h;cases l<;>simp_all [zT]
theorem F4(h:qh l i=some x)(k:Nat):(zT k l=k)=True:=by simp[ZO h]
theorem ZN(h:qh l i=some x):(i.toNat<l.length)=True:=by have:=oo h;simp only[eq_iff_iff,iff_true];exact(qF this).1
theorem CX(h:kv l lo hi=some r)(k:IntKind):vM (.pv (.int k lo))=some lo.toNat:=by unfold kv at h;split at h;rename_i h0;simp[vM,h0.1.1];cases h
theorem CV(h:kv l lo hi=some r)(k:IntKind):vM (.pv (.int k hi))=some hi.toNat:=by unfold kv at h;split at h;rename_i h0;simp[vM,h0.1.2];cases h
theorem CW(h:kv l lo hi=some r):(lo.toNat<=hi.toNat)=True:=by unfold kv at h;split at h;rename_i h0;simp[h0.2.1];cases h
theorem Mq(h:kv l lo hi=some r):(hi.toNat<=l.length)=True:=by unfold kv at h;split at h;rename_i h0;simp[h0.2.2];cases h
theorem Xg(h:kv l lo hi=some r):(l.take hi.toNat).drop lo.toNat=r:=by unfold kv at h;split at h<;>simp_all
theorem subF_lo(h:mo l lo=some r)(k:IntKind):vM (.pv (.int k lo))=some lo.toNat:=by unfold mo at h;split at h;rename_i h0;simp[vM,h0.1];cases h
theorem subF_le(h:mo l lo=some r):(lo.toNat<=l.length)=True:=by unfold mo at h;split at h;rename_i h0;simp[h0.2];cases h
theorem G1(h:mo l lo=some r):l.drop lo.toNat=r:=by unfold mo at h;split at h<;>simp_all
theorem subT_hi(h:kQ l hi=some r)(k:IntKind):vM (.pv (.int k hi))=some hi.toNat:=by unfold kQ at h;split at h;rename_i h0;simp[vM,h0.1];cases h
theorem subT_len(h:kQ l hi=some r):(hi.toNat<=l.length)=True:=by unfold kQ at h;split at h;rename_i h0;simp[h0.2];cases h
theorem G3(h:kQ l hi=some r):l.take hi.toNat=r:=by unfold kQ at h;split at h<;>simp_all
theorem Nf{β:Type}(e:α->β)(h:kv l lo hi=some r):((w? e l).take hi.toNat).drop lo.toNat=w? e r:=by rw[<- q1b,<- q1a,Xg h]
theorem LN{β:Type}(e:α->β)(h:mo l lo=some r):(w? e l).drop lo.toNat=w? e r:=by rw[<- q1a,G1 h]
theorem LO{β:Type}(e:α->β)(h:kQ l hi=some r):(w? e l).take hi.toNat=w? e r:=by rw[<- q1b,G3 h]
theorem Mw(h:kv l lo hi=some r)(k:Nat):zT (zT k l) r=zT k r:=by have:=Xg h;cases r with|nil=>rfl|cons=>cases l<;>simp_all [zT]
theorem szc_subF(h:mo l lo=some r)(k:Nat):zT (zT k l) r=zT k r:=by have:=G1 h;cases r with|nil=>rfl|cons=>cases l<;>simp_all [zT]
theorem szc_subT(h:kQ l hi=some r)(k:Nat):zT (zT k l) r=zT k r:=by have:=G3 h;cases r with|nil=>rfl|cons=>cases l<;>simp_all [zT]
theorem CZ{β:Type}(k:Nat)(e:α->β)(l:List α):zT k (w? e l)=zT k l:=by cases l<;>rfl
theorem szc_szc(k:Nat)(l:List α):zT (zT k l) l=zT k l:=by cases l<;>rfl
theorem D1(k:Nat):zT k ([]:List α)=0:=rfl
theorem Mu(k:Nat)(x:α)(l:List α):zT k (x::l)=k:=rfl
theorem Mv(k:Nat)(l:List α)(x:α)(r:List α):zT k (l++x::r)=k:=by cases l<;>rfl
theorem D2(k:Nat)(l:List α)(i:Nat)(x:α):zT k (l.set i x)=zT k l:=by cases l<;>cases i<;>rfl
theorem Sb{β:Type}(e:α->β)(l:List α):(w? e l).isEmpty=l.isEmpty:=by cases l<;>rfl
theorem BC(l:List α)(x:α)(r:List α):(l++x::r).isEmpty=false:=by cases l<;>rfl
theorem Sd(l:List α)(i:Nat)(x:α):(l.set i x).isEmpty=l.isEmpty:=by cases l<;>cases i<;>rfl
theorem BB(x:α)(l:List α):(x::l).isEmpty=false:=rfl
theorem Sc:([]:List α).isEmpty=true:=rfl
theorem szc_or{β:Type}(k:Nat)(e:α->β)(l:List α):(zT k l=k\/w? e l=[])=True:=by cases l<;>simp[zT]
theorem map_set{β:Type}(e:α->β)(l:List α)(i:Nat)(x:α):(w? e l).set i (e x)=w? e (l.set i x):=by simp[J_]
theorem LM(s:qa):w? (fun b=>[n? .u8 (b.toNat:Int)]) s=w? J4 s:=rfl
theorem lv: ∀s:qa,ph (w? J4 s)=some s
 |[]=>rfl
 |b::s=>by simp[J4,ph,lv s]
theorem u8_nat(b:UInt8):u8 (b.toNat:Int)=b:=by simp[u8]
theorem D4(n:Int):((u8 (P?.wrap n)).toNat:Int)=P?.wrap n:=by
 have h:0<=P?.wrap n/\P?.wrap n<256:=by simp only[IntKind.wrap,IntKind.bits,O'];constructor;simp;omega;simp;omega
 simp only[u8,UInt8.toNat_ofNat'];omega
theorem range1:E? 1=[0]:=rfl
theorem range2:E? 2=[0,1]:=rfl
theorem range3:E? 3=[0,1,2]:=rfl
theorem range4:E? 4=[0,1,2,3]:=rfl
theorem range5:E? 5=[0,1,2,3,4]:=rfl
theorem range6:E? 6=[0,1,2,3,4,5]:=rfl
def eE(te:TI)(β L n:Nat)(src:List (List PV))(nx:Nat):Option qD->Option mA
 |some (.row true _ es)=>if L=es.length/\n=0 then jV te (.row β L 0 n) src β nx nx else none
 |some (.row false sz es)=>
  if L=es.length/\sz=te.size/\qg (n+src.length) te.bytes=true then
   if n=es.length then some (.row β (es++src).length 0 (es++src).length,[(β,.row false te.size (es++src))],nx)
   else some (.row β (es.take n++src++es.drop (n+src.length)).length 0 (n+src.length),[(β,.row false te.size (es.take n++src++es.drop (n+src.length)))],nx)
  else none
 |_=>none
theorem rowApp_F(te:TI)(β L n nx sz:Nat)(es src:List (List PV)):eE te β L n src nx (some (.row false sz es))=
  if L=es.length/\sz=te.size/\qg (n+src.length) te.bytes=true then
   if n=es.length then some (.row β (es++src).length 0 (es++src).length,[(β,.row false te.size (es++src))],nx)
   else some (.row β (es.take n++src++es.drop (n+src.length)).length 0 (n+src.length),[(β,.row false te.size (es.take n++src++es.drop (n+src.length)))],nx)
  else none:=rfl
theorem rowApp_T(te:TI)(β L n nx sz:Nat)(es src:List (List PV)):eE te β L n src nx (some (.row true sz es))=if L=es.length/\n=0 then jV te (.row β L 0 n) src β nx nx else none:=rfl
def Ke(te:TI)(β L n:Nat)(H:qp)(nx:Nat)(d:Option mA):Option (Nat×List (List PV))->Option mA
 |none=>d
 |some (rn,src)=>if(rn=te.size\/src=[])/\0<te.size then eE te β L n src nx (H.get β)else none
theorem GW(te:TI)(β L n:Nat)(x:AV)(H:qp)(nx:Nat):uU te (.row β L 0 n) x H nx=Ke te β L n H nx (mE te (.row β L 0 n) x H nx) (yH x H):=by unfold uU Ke;cases yH x H with|none=>rfl|some p=>obtain⟨rn,src⟩:=p;simp only;split;(unfold eE;cases H.get β with|none=>rfl|some b=>cases b with|row qt sz es=>cases qt<;>simp|_=>rfl);rfl
theorem GV(te:TI)(sz:Nat)(es:List (List PV))(x:AV)(H:qp)(nx:Nat):uU te (.pv (.sl true sz es)) x H nx=
  match yH x H with
  |none=>mE te (.pv (.sl true sz es)) x H nx
  |some (rn,src)=>if(rn=te.size\/src=[])/\0<te.size then jV te (.pv (.sl true sz es)) src nx nx (nx+1)else none:=rfl
theorem GX(te:TI)(x:AV)(H:qp)(nx:Nat):uU te .iW x H nx=
  match yH x H with
  |none=>mE te .iW x H nx
  |some (rn,src)=>if(rn=te.size\/src=[])/\0<te.size then jV te .iW src nx nx (nx+1)else none:=rfl
theorem M6(te:TI)(β k nx:Nat)(e:α->List PV)(l:List α)(c:List PV)(src:List (List PV))(hk:k=te.size)(hr:qg (l.length+(c::src).length) te.bytes=true):
  eE te β l.length l.length (c::src) nx (some (.row l.isEmpty (zT k l) (w? e l)))=
   some (.row β (w? e l++c::src).length 0 (w? e l++c::src).length,[(β,.row false k (w? e l++c::src))],nx):=by subst hk;cases l with|nil=>(have hr' :qg (src.length+1) te.bytes=true:=by simpa using hr);simp[eE,jV,hr']|cons a l=>(have hr' :qg (l.length+1+(src.length+1)) te.bytes=true:=by simpa using hr);simp[eE,zT,hr']
theorem OH{γ:Type}(te:TI)(s:AV)(e' :γ->List PV)(xs:List γ)(b nx fg:Nat)(hs:xs.isEmpty=false)(hr:qg xs.length te.bytes=true):
  jV te s (w? e' xs) b nx fg=some (.row b xs.length 0 xs.length,[(b,.row false te.size (w? e' xs))],fg):=by cases xs with|nil=>simp at hs|cons c r=>(have hr' :qg (r.length+1) te.bytes=true:=by simpa using hr);simp[jV,hr']
theorem app_ne{γ:Type}{l s:List γ}(h:(l.isEmpty&&s.isEmpty)=false):(l++s).isEmpty=false:=by cases l<;>cases s<;>simp_all
theorem app_szc{γ:Type}{l s:List γ}(h:(l.isEmpty&&s.isEmpty)=false)(k:Nat):zT k (l++s)=k:=by cases l<;>cases s<;>simp_all [zT]
end
structure RY where
 es:List (Int×Int×Nat)
 zW:Nat
 deriving Inhabited
def entE(e:Int×Int×Nat):PV×PV×Nat:=(.int .i64 e.1,.int .i64 e.2.1,e.2.2)
def lookB(te:TI)(k:PV)(ok:Bool):Option qD->Option AV
 |some (.map es _)=>match findKey k es 0 with
  |some (some (_,v,_))=>some (if ok then .xR [.pv v,.pv (.bool true)]else .pv v)
  |some none=>some (if ok then .xR [.pv (WC te),.pv (.bool false)]else .pv (WC te))
  |none=>none
 |_=>none
def updB(β:Nat)(k v:PV):Option qD->Option (List (Nat×qD))
 |some (.map es zW)=>match findKey k es 0 with
  |some (some (i,_,born))=>some [(β,.map (es.set i (k,v,born)) zW)]
  |some none=>some [(β,.map (es++[(k,v,zW)]) (zW+1))]
  |none=>none
 |_=>none
def delB(β:Nat)(k:PV):Option qD->Option (List (Nat×qD))
 |some (.map es zW)=>match findKey k es 0 with
  |some (some (i,_,_))=>some [(β,.map (es.eraseIdx i) zW)]
  |some none=>some [(β,.map es zW)]
  |none=>none
 |_=>none
theorem Dq(tk te:TI)(β:Nat)(k:PV)(ok:Bool)(H:qp):aF tk te (.map β) (.pv k) ok H=if jL tk.td k=true then lookB te k ok (H.get β)else none:=by unfold aF Kv;simp only;split;(cases H.get β with|none=>rfl|some b=>cases b<;>rfl);rfl
theorem Dt(tk:TI)(β:Nat)(k v:PV)(H:qp):rz tk (.map β) (.pv k) v H=if jL tk.td k=true then updB β k v (H.get β)else none:=by unfold rz;simp only;split;(cases H.get β with|none=>rfl|some b=>cases b<;>rfl);rfl
theorem IQ(tk te:TI)(β:Nat)(k:PV)(H:qp):lk tk te (.map β) (.pv k) H=none:=rfl
theorem Vn(β:Nat)(kd:IntKind)(born:Int)(v:PV)(H:qp):bD (.map β) (.pv (.int kd born)) v H=none:=rfl
theorem Dm(tk:TI)(β:Nat)(k:PV)(H:qp):sV tk (.map β) (.pv k) H=if jL tk.td k=true then delB β k (H.get β)else none:=by unfold sV;simp only;split;(cases H.get β with|none=>rfl|some b=>cases b<;>rfl);rfl
section
variable (b:Bool) (β:Nat) (m:RY) (k:Int)
end
theorem jg{α:Type}{l:List α}{n:Nat}(h:n<l.length):qh l (n:Int)=some l[n]:=by simp[qh,h]
theorem mcons{α β:Type}(f:α->β)(a:α)(l:List α):w? f (a::l)=f a::w? f l:=rfl
theorem mnil{α β:Type}(f:α->β):w? f ([]:List α)=[]:=rfl
theorem lnil{α:Type}:([]:List α).length=0:=rfl
theorem lcons{α:Type}(a:α)(l:List α):(a::l).length=l.length+1:=rfl
theorem lset{α:Type}(l:List α)(i:Nat)(x:α):(l.set i x).length=l.length:=List.length_set
def encx:=PLift.up (h? @mcons (h? @mnil (h? @lnil (h? @lcons (h? @D1 (h? @Mu (h? @Mv (h? @D2 (h? @Sc (h? @BB (h? @BC (h? @Sd (h? @lset (h? @u8_nat @D4))))))))))))))
theorem lS{α:Type}{P:Program}{t:TypeId}{e:α->List PV}{ok:α->Prop}{n:Nat}(h:jU P t e ok n):jU P t e (fun _=>True) n:=h.map (fun x=>x) (fun _ _=>⟨trivial,rfl⟩)
def X4{α β:Type}(e1:α->List PV)(e2:β->List PV)(x:α×β):List PV:=e1 x.1++e2 x.2
def bA{α:Type}(_:α):Prop:=True
def Hg(_:Unit):List PV:=[]
theorem eO{α β:Type}{P:Program}{f:Field}{fs:List Field}{e1:α->List PV}{ok1:α->Prop}{e2:β->List PV}{n off c:Nat}(ho:f.offset=off)(hc:P.cellsOf f.type=c)
  (h1:jU P f.type e1 ok1 n) (h2:rq P fs e2 bA n (off+c)):rq P (f::fs) (X4 e1 e2) bA n off:=by intro H enc w base spare held fuel cs a b d;obtain⟨x,m,_,h⟩:=rq.cons ho hc h1 h2 H enc w base spare held fuel cs a b d;exact⟨x,m,trivial,h⟩
theorem fNil{P:Program}(n off:Nat):rq P [] Hg bA n off:=by intro H enc w base spare held fuel cs a b d;obtain⟨x,m,_,h⟩:=rq.nil (P:=P) n off H enc w base spare held fuel cs a b d;exact⟨x,m,trivial,h⟩
theorem rdSl{α:Type}{P:Program}{t el:TypeId}{sz:Nat}{e:α->List PV}{ok:α->Prop}{n:Nat}(ht:P.underlying t=some (.slice el))(hc:P.cellsOf t=1)(mq:P.cellsOf el=sz)(pT:0<sz)
  (h:jU P el e ok n):jU P t (my sz e) (fun _=>True) n:=
 ((jU.slice ht hc mq pT h).map (fun x=>(⟨x.1&&x.2.isEmpty,x.2⟩:Sl α)) (fun x _=>⟨trivial,by simp[my,slP,Sb,CZ]⟩)).mono (Nat.le_succ n)
def eS(n:Int):Prop:= -9223372036854775808<=n/\n<=9223372036854775807
def nX(s:qa):Prop:=s.length<=maxLen
def nE{α:Type}(ok:α->Prop)(s:Sl α):Prop:=(s.l.length<=maxLen/\(s.nil=true->s.l=[]))/\ ∀a∈s.l,ok a
theorem drop_cons{α:Type}{xs:List α}{i:Nat}{x:α}{r:List α}(h:xs.drop i=x::r):xs[i]? =some x/\xs.drop (i+1)=r/\i<xs.length:=by
 have h1:xs[i]? =some x:=by have:=congrArg (fun l=>l[0]?) h;simpa using this
 have h2:xs.drop (i+1)=r:=by have:=congrArg (fun l=>l.drop 1) h;simpa[List.drop_drop]using this
 exact⟨h1,h2,(qF h1).1⟩
theorem vJ{α:Type}{xs:List α}{i:Nat}(h:xs.drop i=[]):xs.length<=i:=by simpa using h
theorem qG{n:Int}(h1: -9223372036854775808<=n)(h2:n<=9223372036854775807):q?.wrap n=n:=IntWalk.i64_in n ⟨h1,h2⟩
theorem dR{n:Nat}(h:n<9223372036854775807):q?.wrap ((n:Int)+1)=((n+1:Nat):Int):=qG o? o?
theorem PC(b:Bool):y! (.pv (.bool b))=[(.pv (.bool b))]:=rfl
theorem DC(k:IntKind)(n:Int):y! (.pv (.int k n))=[(.pv (.int k n))]:=rfl
theorem DD(l:List UInt8):y! (.pv (.str l))=[(.pv (.str l))]:=rfl
theorem Oh(a:Bool)(b:Nat)(c:List (List PV)):y! (.pv (.sl a b c))=[(.pv (.sl a b c))]:=rfl
theorem UC:y! (.pv (.yc))=[(.pv (.yc))]:=rfl
theorem Bq:y! (.pv (.fc))=[(.pv (.fc))]:=rfl
theorem UB:y! (.pv (.bP))=[(.pv (.bP))]:=rfl
theorem Br:y! (.pv (.i6))=[(.pv (.i6))]:=rfl
theorem Of(f:FuncId):y! (.pv (.fn f))=[(.pv (.fn f))]:=rfl
theorem Og(c:List PV):y! (.pv (.rp c))=[(.pv (.rp c))]:=rfl
theorem PD(c:List PV):y! (.pv (.agg c))=c.map .pv:=rfl
theorem Py(x y:Nat):y! (.ptr x y)=[(.ptr x y)]:=rfl
theorem Bn(x y z u:Nat):y! (.uJ x y z u)=[(.uJ x y z u)]:=rfl
theorem Bo(c:List PV)(x:Nat):y! (.tE c x)=[(.tE c x)]:=rfl
theorem Pz(x y z u:Nat):y! (.row x y z u)=[(.row x y z u)]:=rfl
theorem PB:y! (.iW)=[(.iW)]:=rfl
theorem Px(x:Nat):y! (.map x)=[(.map x)]:=rfl
theorem Pw(f:FuncId)(a b:List AV):y! (.QX f a b)=[(.QX f a b)]:=rfl
theorem PA(l:List AV):y! (.xR l)=[(.xR l)]:=rfl
theorem DB(c:List AV):y! (.agg c)=c:=rfl
abbrev qi(n:Int):AV:= .pv (.int .i64 n)
abbrev zu(b:Bool):AV:= .pv (.bool b)
abbrev qM(s:qa):AV:= .pv (.str s)
abbrev Q6(l:List PV):AV:= .pv (.agg l)
abbrev v_l{α:Type}(k:Nat)(e:α->List PV)(s:Sl α):AV:= .pv (.sl s.nil (zT k s.l) (w? e s.l))
abbrev qq{α:Type}(β:Nat)(l:List α):AV:= .row β l.length 0 l.length
abbrev b_x(l:List PV):qD:= .box (w? .pv l)
abbrev b_r{α:Type}(k:Nat)(e:α->List PV)(l:List α):qD:= .row l.isEmpty (zT k l) (w? e l)
abbrev b_m(m:RY):qD:= .map (w? entE m.es) m.zW
theorem v_i_eq(n:Int):qi n= .pv (.int .i64 n):=rfl
theorem v_b_eq(b:Bool):zu b= .pv (.bool b):=rfl
theorem v_s_eq(s:qa):qM s= .pv (.str s):=rfl
theorem v_g_eq(l:List PV):Q6 l= .pv (.agg l):=rfl
theorem v_l_eq{α:Type}(k:Nat)(e:α->List PV)(s:Sl α):v_l k e s= .pv (.sl s.nil (zT k s.l) (w? e s.l)):=rfl
theorem v_r_eq{α:Type}(β:Nat)(l:List α):qq β l= .row β l.length 0 l.length:=rfl
theorem b_x_eq(l:List PV):b_x l= .box (w? .pv l):=rfl
theorem b_r_eq{α:Type}(k:Nat)(e:α->List PV)(l:List α):b_r k e l= .row l.isEmpty (zT k l) (w? e l):=rfl
theorem b_m_eq(m:RY):b_m m= .map (w? entE m.es) m.zW:=rfl
theorem Od(b:UInt8):J4 b=[.int .u8 b.toNat]:=rfl
theorem intE_eq(n:Int):zK n=[.int .i64 n]:=rfl
theorem strE_eq(s:qa):aw s=[.str s]:=rfl
theorem Oa(b:Bool):Bk b=[.bool b]:=rfl
theorem kE_eq(k:IntKind)(n:Int):kE k n=[.int k n]:=rfl
theorem slE_eq{α:Type}(k:Nat)(e:α->List PV)(s:Sl α):my k e s=[.sl s.nil (zT k s.l) (w? e s.l)]:=rfl
theorem O3{α:Type}(e:α->List PV)(s:α×α):O2 e s=e s.1++e s.2:=rfl
def wordx:=PLift.up (h? @v_i_eq (h? @v_b_eq (h? @v_s_eq (h? @v_g_eq (h? @v_l_eq (h? @v_r_eq (h? @b_x_eq (h? @b_r_eq (h? @b_m_eq (h? @Od (h? @intE_eq (h? @strE_eq (h? @Oa (h? @kE_eq (h? @slE_eq @O3)))))))))))))))
section
variable {α β:Type} {r:β} {P:Prop}
theorem bs{o:Option α}{k:α->Option β}(f: ∀x,o=some x->k x=some r->P)(h:o>>=k=some r):P:=by obtain⟨x,h1,h2⟩:=R!.1 h;exact f x h1 h2
theorem it{b:Bool}{p q:Option β}(f:b=true->p=some r->P)(g:b=false->q=some r->P)(h:(if b=true then p else q)=some r):P:=by cases b;exact g rfl h;exact f rfl h
theorem gd{Q:Prop}[Decidable Q]{p:Option β}(f:Q->p=some r->P)(h:(if Q then p else none)=some r):P:=by split at h;exact f ‹_› h;cases h
variable {l:List α} {i lo hi:Int}
theorem bw{k:α->Option β}(e:α->List PV)(f: ∀x,qh l i=some x->(∀ kd,vM (.pv (.int kd i))=some i.toNat)->(w? e l)[i.toNat]? =some (e x)->(i.toNat<l.length)=True->k x=some r->P)(h:qh l i>>=k=some r):P:=
 bs (fun x hx=>f x hx (lJ hx) (lI e hx) (ZN hx)) h
theorem bW{k:α->Option β}(e:α->List PV)(z:Nat)(f: ∀x,qh l i=some x->(∀ kd,vM (.pv (.int kd i))=some i.toNat)->(w? e l)[i.toNat]? =some (e x)->(i.toNat<l.length)=True->l.isEmpty=false->zT z l=z->k x=some r->P)(h:qh l i>>=k=some r):P:=
 bs (fun x hx=>f x hx (lJ hx) (lI e hx) (ZN hx) (UT hx) (ZO hx z)) h
variable {k:List α->Option β}
theorem b2(e:α->List PV)(f: ∀x,kv l lo hi=some x->(∀ kd,vM (.pv (.int kd lo))=some lo.toNat)->(∀ kd,vM (.pv (.int kd hi))=some hi.toNat)->(lo.toNat<=hi.toNat)=True->(hi.toNat<=l.length)=True->((w? e l).take hi.toNat).drop lo.toNat=w? e x->(∀ z,zT (zT z l) x=zT z x)->k x=some r->P)(h:kv l lo hi>>=k=some r):P:=
 bs (fun x hx=>f x hx (CX hx) (CV hx) (CW hx) (Mq hx) (Nf e hx) (Mw hx)) h
variable {s:List α}
theorem rG(k:Nat)(e:α->List PV)(l:List α)(te:TI)(β nx:Nat)(c:List PV)(hk:k=te.size)(hr:qg (l.length+1) te.bytes=true):
  eE te β l.length l.length [c] nx (some (.row l.isEmpty (zT k l) (w? e l)))=some (.row β (w? e l++[c]).length 0 (w? e l++[c]).length,[(β,.row false k (w? e l++[c]))],nx):=M6 te β k nx e l c [] hk hr
theorem rN(e:α->List PV)(hs:s.isEmpty=false)(te:TI)(v:AV)(b nx fg:Nat)(hr:qg s.length te.bytes=true):jV te v (w? e s) b nx fg=some (.row b s.length 0 s.length,[(b,.row false te.size (w? e s))],fg):=OH te v e s b nx fg hs hr
end
section
variable (m:RY) (k v:Int) (b:Bool) (β:Nat)
end
theorem fF{G:GP}{f:FuncId}{S:pd}{nt:Nat}{ob:Option Code}{ra:Array ResultVar}(XF:G.fn f=some ⟨nt,ra.toList,ob.get!⟩){c:Code}{rs:List ResultVar}{H:qp}{args:List AV}{r:Option (AV×qp)}
  (hs:S.call f=none:=by rfl) (hc:ob=some c:=by rfl) (hr:ra=⟨rs⟩:=by rfl) (hk:uM 0 H=true:=by rfl)
  (h:Ye G f H.length rs (cont G (omega G S) f [.code c] (.normal,⟨rA 0 args,H,H.length⟩))=r:=by
   simp(maxSteps:=2000000) (disch:=first|assumption|rfl|exact IB.mk (by kernel_rfl)) only[go_sem,↓reduceIte,Nat.reduceLeDiff,Nat.reduceEqDiff,Nat.reduceLT,Nat.reduceAdd,Nat.reduceSub,Nat.reduceMul,reduceCtorEq,Nat.reducePow, *]):
  (omega G S).call f args H=r:=SY hs XF hc hr hk h
theorem fL{G:GP}{f:FuncId}{S:pd}{fi:FI}(XF:G.fn f=some fi){id:Nat}{c:Code}{s:St}{r:Option (Ex×St)}
  (hc:zF fi.body id=some c:=by rfl)
  (h:aj G (omega G S) f id s.nx (cont G (omega G S) f [.code c] (.normal,s))=r:=by
   simp(maxSteps:=2000000) (disch:=first|assumption|rfl|exact IB.mk (by kernel_rfl)) only[go_sem,↓reduceIte,Nat.reduceLeDiff,Nat.reduceEqDiff,Nat.reduceLT,Nat.reduceAdd,Nat.reduceSub,Nat.reduceMul,reduceCtorEq,Nat.reducePow, *]):
  (omega G S).loop f id s=r:=SZ XF hc h
def HK(H:qp):List Nat->List Nat
 |[]=>[]
 |β::r=>(sc H β).refs++HK H r
theorem U4(H:qp): ∀d:List Nat,(d.flatMap fun β=>(sc H β).refs)=HK H d
 |[]=>rfl
 |β::r=>by rw[List.flatMap_cons,U4 H r];rfl
theorem AO(H:qp)(d roots:List Nat):s9 H d roots=match roots,d with
 |[],[]=>some ([],[])
 |roots,d=>let L:=nR H 400 (roots++HK H d) d
  if G2 roots L&&pP H L L then some (L,pick H (pos L) 0 L)else none:=by cases roots<;>cases d<;>first|rfl|simp only[s9,U4]
theorem aNil_p1(H:qp):dc .ptr (.pv .yc) H=some true:=rfl
theorem aNil_p2(H:qp)(β o:Nat):dc .ptr (.ptr β o) H=some false:=rfl
theorem aNil_p3(H:qp)(c:List PV)(o:Nat):dc .ptr (.tE c o) H=some false:=rfl
theorem aNil_p4(H:qp)(β xc i o:Nat):dc .ptr (.uJ β xc i o) H=some false:=rfl
theorem aNil_p5(H:qp)(c:List PV):dc .ptr (.pv (.rp c)) H=some false:=rfl
theorem aNil_s1(H:qp)(e:TypeId)(b:Bool)(sz:Nat)(es:List (List PV)):dc (.slice e) (.pv (.sl b sz es)) H=some b:=rfl
theorem aNil_s2(H:qp)(e:TypeId):dc (.slice e) .iW H=some false:=rfl
theorem aNil_s3(H:qp)(e:TypeId)(β xc off n:Nat):dc (.slice e) (.row β xc off n) H=match H.get β with|some (.row b _ es)=>if xc=es.length then some b else none|_=>none:=rfl
theorem aNil_m1(H:qp)(k e:TypeId):dc (.map k e) (.pv .bP) H=some true:=rfl
theorem aNil_m2(H:qp)(k e:TypeId)(β:Nat):dc (.map k e) (.map β) H=some false:=rfl
theorem aNil_f1(H:qp):dc .func (.pv .fc) H=some true:=rfl
theorem aNil_f2(H:qp)(f:FuncId):dc .func (.pv (.fn f)) H=some false:=rfl
theorem aNil_f3(H:qp)(f:FuncId)(a b:List AV):dc .func (.QX f a b) H=some false:=rfl
def oE{α:Type}(k:Nat)(e:α->List PV)(l:List (Sl α)):List PV:=l.map fun x=> .sl x.nil (zT k x.l) (w? e x.l)
def m9{α:Type}(ds:List Nat)(k:Nat)(e:α->List PV)(x:Sl (Sl α)):qD:= .jc x.nil ds (oE k e x.l) none
section
variable {α:Type} (k:Nat) (e:α->List PV) (l:List (Sl α))
theorem oE_len:(oE k e l).length=l.length:=by simp[oE]
theorem oE_nil:oE k e []=[]:=rfl
theorem oE_get{i:Int}{x:Sl α}(h:qh l i=some x):(oE k e l)[i.toNat]? =some (.sl x.nil (zT k x.l) (w? e x.l)):=by simp[oE,oo h]
theorem oE_flat:(w? (my k e) l).flatten=oE k e l:=by induction l with|nil=>rfl|cons x l ih=>simp[oE,my]at ih |-; exact ih
end
theorem Mr{α:Type}{l r:List α}{n:Int}(h:kQ l n=some r):r.length=n.toNat:=by unfold kQ at h;split at h;rename_i hc;cases h;rw[List.length_take];omega;cases h
theorem Ma{α:Type}{e:α->List PV}(he: ∀x,(e x).all PV.WI=true)(l:List α):cd (w? e l)=true:=by simp[cd];intro x _;simpa using he x
theorem szc_or2{α:Type}(k:Nat)(l:List α):(l.isEmpty=true\/zT k l=k)=True:=by cases l<;>simp[zT]
def mL{α:Type}(d:α):List (Nat×α)->Nat->α
 |[],_=>d
 |(a,x)::r,k=>if a=k then x else mL d r k
class zf {β:Type} (o:Option β) (Q:outParam (β->Prop)):Prop where
 ok: ∀r,o=some r->Q r
class FnC (G:GP) (f:FuncId) (fi:outParam FI):Prop where
 h:G.fn f=some fi
abbrev Db(x:Func):FI:=⟨x.ntmps,x.results.toList,x.body.get!⟩
theorem fnK{G:GP}{f:FuncId}{x:FI}(h:G.fn f=some x:=by kernel_rfl):FnC G f x:=⟨h⟩
abbrev Lp(a b:List Nat):pA:=⟨a,b,[],[],[],0⟩
abbrev Lq(a b p:List Nat):pA:=⟨a,b,p,[],[],0⟩
def jh:PV:= .int .i64 0
def sG:PV:= .str []
def mn:PV:= .bool false
def kM:PV:= .sl true 0 []
def tF:Option TI:=some ⟨1,8,.func,[.fc],false,none⟩
def tS(e:TypeId):Option TI:=some ⟨1,24,.slice e,[.sl true 0 []],false,none⟩
def tP(e:TypeId):Option TI:=some ⟨1,8,.ptr,[.yc],false,some e⟩
def tT(n b:Nat)(fs:List (Nat×Nat×TypeId))(z:List PV):Option TI:=some ⟨n,b,.struct fs,z,true,none⟩
class wz (α:Type) (k:outParam Nat) (e:outParam (α->List PV)):Prop where
 t:True
instance:wz UInt8 1 J4:=⟨trivial⟩
instance:wz Int 1 zK:=⟨trivial⟩
instance:wz Bool 1 Bk:=⟨trivial⟩
instance:wz qa 1 aw:=⟨trivial⟩
instance{α:Type}{k:Nat}{e:α->List PV}[wz α k e]:wz (Sl α) 1 (my k e):=⟨trivial⟩
instance{α:Type}{k:Nat}{e:α->List PV}[wz α k e]:wz (α×α) (k+k) (O2 e):=⟨trivial⟩
section
variable {α β γ:Type} {r:β} {P:Prop} {a b:Bool} {p q:Option β}
theorem iA(f:a=true->(if b=true then p else q)=some r->P)(g:a=false->q=some r->P)(h:(if (a&&b)=true then p else q)=some r):P:=by cases a;exact g rfl (by simpa using h);exact f rfl (by simpa using h)
theorem iO(f:a=true->p=some r->P)(g:a=false->(if b=true then p else q)=some r->P)(h:(if (a || b)=true then p else q)=some r):P:=by cases a;exact g rfl (by simpa using h);exact f rfl (by simpa using h)
theorem bsS{o:Option (α⊕γ)}{k:α⊕γ->Option β}(f: ∀y,o=some (.inl y)->k (.inl y)=some r->P)(g: ∀y,o=some (.inr y)->k (.inr y)=some r->P)(h:o>>=k=some r):P:=by obtain⟨x,h1,h2⟩:=R!.1 h;cases x with|inl y=>exact f y h1 h2|inr y=>exact g y h1 h2
theorem bsS3{δ:Type}{o:Option (α⊕(γ⊕δ))}{k:α⊕(γ⊕δ)->Option β}(f: ∀y,o=some (.inl y)->k (.inl y)=some r->P)(g: ∀y,o=some (.inr (.inl y))->k (.inr (.inl y))=some r->P)(g' : ∀y,o=some (.inr (.inr y))->k (.inr (.inr y))=some r->P)(h:o>>=k=some r):P:=
 bsS f (fun y=>by cases y with|inl y=>exact g y|inr y=>exact g' y) h
variable {i lo hi:Int}
theorem bsS4{δ ε:Type}{o:Option (α⊕(γ⊕(δ⊕ε)))}{k:α⊕(γ⊕(δ⊕ε))->Option β}(f: ∀y,o=some (.inl y)->k (.inl y)=some r->P)(g: ∀y,o=some (.inr (.inl y))->k (.inr (.inl y))=some r->P)(g' : ∀y,o=some (.inr (.inr (.inl y)))->k (.inr (.inr (.inl y)))=some r->P)(g'' : ∀y,o=some (.inr (.inr (.inr y)))->k (.inr (.inr (.inr y)))=some r->P)(h:o>>=k=some r):P:=
 bsS3 f g (fun y=>by cases y with|inl y=>exact g' y|inr y=>exact g'' y) h
theorem wgO{l:List (Sl α)}{k:Sl α->Option β}{n:Nat}{e:α->List PV}[wz α n e](f: ∀x,qh l i=some x->(∀ kd,vM (.pv (.int kd i))=some i.toNat)->l[i.toNat]? =some x->(w? (my n e) l)[i.toNat]? =some (my n e x)->(oE n e l)[i.toNat]? =some (.sl x.nil (zT n x.l) (w? e x.l))->(i.toNat<l.length)=True->l.isEmpty=false->(∀ z,zT z l=z)->k x=some r->P)(h:qh l i>>=k=some r):P:=
 bs (fun x hx=>f x hx (lJ hx) (oo hx) (lI _ hx) (oE_get n e l hx) (ZN hx) (UT hx) (ZO hx)) h
theorem wgV{l:Sl α}{k:α->Option β}{n:Nat}{e:α->List PV}[wz α n e](f: ∀x,qh l.l i=some x->(∀ kd,vM (.pv (.int kd i))=some i.toNat)->(w? e l.l)[i.toNat]? =some (e x)->(∀ z,(zT z l.l=z)=True)->(i.toNat<l.l.length)=True->k x=some r->P)(h:qh l.l i>>=k=some r):P:=
 bs (fun x hx=>f x hx (lJ hx) (lI e hx) (F4 hx) (ZN hx)) h
variable {l:List α}
theorem wg{k:α->Option β}{n:Nat}{e:α->List PV}[wz α n e](f: ∀x,qh l i=some x->(∀ kd,vM (.pv (.int kd i))=some i.toNat)->l[i.toNat]? =some x->(w? e l)[i.toNat]? =some (e x)->(i.toNat<l.length)=True->l.isEmpty=false->(∀ z,zT z l=z)->k x=some r->P)(h:qh l i>>=k=some r):P:=
 bs (fun x hx=>f x hx (lJ hx) (oo hx) (lI e hx) (ZN hx) (UT hx) (ZO hx)) h
variable {k:List α->Option β}
theorem w2{n:Nat}{e:α->List PV}[wz α n e](f: ∀x,kv l lo hi=some x->(∀ kd,vM (.pv (.int kd lo))=some lo.toNat)->(∀ kd,vM (.pv (.int kd hi))=some hi.toNat)->(lo.toNat<=hi.toNat)=True->(hi.toNat<=l.length)=True->(l.take hi.toNat).drop lo.toNat=x->((w? e l).take hi.toNat).drop lo.toNat=w? e x->(∀ z,zT (zT z l) x=zT z x)->k x=some r->P)(h:kv l lo hi>>=k=some r):P:=
 bs (fun x hx=>f x hx (CX hx) (CV hx) (CW hx) (Mq hx) (Xg hx) (Nf e hx) (Mw hx)) h
theorem wF{n:Nat}{e:α->List PV}[wz α n e](f: ∀x,mo l lo=some x->(∀ kd,vM (.pv (.int kd lo))=some lo.toNat)->(lo.toNat<=l.length)=True->l.drop lo.toNat=x->(w? e l).drop lo.toNat=w? e x->(∀ z,zT (zT z l) x=zT z x)->k x=some r->P)(h:mo l lo>>=k=some r):P:=
 bs (fun x hx=>f x hx (subF_lo hx) (subF_le hx) (G1 hx) (LN e hx) (szc_subF hx)) h
theorem wT{n:Nat}{e:α->List PV}[wz α n e](f: ∀x,kQ l hi=some x->(∀ kd,vM (.pv (.int kd hi))=some hi.toNat)->(hi.toNat<=l.length)=True->l.take hi.toNat=x->(w? e l).take hi.toNat=w? e x->(∀ z,zT (zT z l) x=zT z x)->x.length=hi.toNat->k x=some r->P)(h:kQ l hi>>=k=some r):P:=
 bs (fun x hx=>f x hx (subT_hi hx) (subT_len hx) (G3 hx) (LO e hx) (szc_subT hx) (Mr hx)) h
end
abbrev xv{α β:Type}(f:α->Option β)(Q:α->β->Prop):Prop:= ∀p,zf (f p) (Q p)
theorem gP{α β:Type}{f:α->Option β}{Q:α->β->Prop}{F:(α->Option β)->α->Option β}(pc: ∀m:α->β->Prop,(∀ g:α->Option β,(∀ x r,g x=some r->m x r)-> ∀x r,F g x=some r->m x r)-> ∀x r,f x=some r->m x r)
  (h: ∀g:α->Option β,xv g Q-> ∀p r,F g p=some r->Q p r):xv f Q:=fun p=>⟨pc Q (fun g i=>h g fun p=>⟨i p⟩) p⟩
class VV (α:Type) (f:outParam (α->AV)):Prop where
 t:True
instance:VV Int qi:=⟨trivial⟩
instance:VV Bool zu:=⟨trivial⟩
instance:VV qa qM:=⟨trivial⟩
instance{α:Type}{k:Nat}{e:α->List PV}[wz α k e]:VV (Sl α) (v_l k e):=⟨trivial⟩
def vv{α:Type}{f:α->AV}[VV α f](x:α):AV:=f x
theorem nY{α:Type}{f:α->AV}[VV α f](x:α):vv x=f x:=rfl
def bb{α:Type}{k:Nat}{e:α->List PV}[wz α k e](x:α):qD:=b_x (e x)
theorem nL{α:Type}{k:Nat}{e:α->List PV}[wz α k e](x:α):bb x=b_x (e x):=rfl
def br{α:Type}{k:Nat}{e:α->List PV}[wz α k e](l:List α):qD:=b_r k e l
theorem nN{α:Type}{k:Nat}{e:α->List PV}[wz α k e](l:List α):br l=b_r k e l:=rfl
def bm{α:Type}{k:Nat}{e:α->List PV}[wz α k e](l:List α):qD:= .row false k (w? e l)
theorem nM{α:Type}{k:Nat}{e:α->List PV}[wz α k e](l:List α):bm l= .row false k (w? e l):=rfl
def nz{α:Type}(b:Bool)(k:Nat)(l:List α):Nat:=match b with|true=>zT k l|false=>k
theorem nz_t{α:Type}(k:Nat)(l:List α):nz true k l=zT k l:=rfl
theorem nz_f{α:Type}(k:Nat)(l:List α):nz false k l=k:=rfl
theorem nz_or{α β:Type}(b:Bool)(k:Nat)(e:α->β)(l:List α):(nz b k l=k\/w? e l=[])=True:=by cases b<;>cases l<;>simp[nz,zT]
def bN{α:Type}{k:Nat}{e:α->List PV}[wz α k e](x:Sl α):qD:= .row x.nil (nz x.nil k x.l) (w? e x.l)
theorem bN_eq{α:Type}{k:Nat}{e:α->List PV}[wz α k e](x:Sl α):bN x= .row x.nil (nz x.nil k x.l) (w? e x.l):=rfl
theorem q04(k:IntKind){n:Int}(h:0<=n):vM (.pv (.int k n))=some n.toNat:=q05 k h
section
variable {α β:Type} (e:α->β) (l r:List α) (k:Nat)
theorem RH{l r:List α}(h:(l.isEmpty&&r.isEmpty)=false)(k:Nat):zT k (l++r)=k:=app_szc h k
theorem Dz:ph []=some []:=rfl
theorem DA(n:Int)(r:List (List PV)):ph ([.int .u8 n]::r)=(ph r).map fun l=>u8 n::l:=by rw[ph];cases ph r<;>rfl
theorem scal_int(l:List Int):cd (w? zK l)=true:=Ma (fun _=>rfl) l
theorem scal_rep(n:Nat)(k:IntKind)(z:Int):cd (b? n [n? k z])=true:=by unfold cd;rw[Z!];intro x hx;rw[(List.mem_replicate.1 hx).2];rfl
theorem map_oE{α:Type}(k:Nat)(e:α->List PV)(l:List (Sl α)):(oE k e l).map (fun p=>[p])=w? (my k e) l:=by unfold oE my;rw[List.map_map];rfl
structure Fit (l:List α) (n:Nat):Prop where
 h:l.length<=n
theorem take_ge{n:Nat}{l:List α}(h:Fit l n):l.take n=l:=List.take_of_length_le h.h
theorem szc_apC(a t:List α)(c:α)(k:Nat):zT k (a++c::t)=k:=by cases a<;>rfl
theorem szc_apL(a t b:List α)(c:α)(k:Nat):zT k (a++c::t++b)=k:=by cases a<;>rfl
theorem Ax(l:List Int)(i:Nat)(k:IntKind)(z:Int):cd ((w? zK l).set i [n? k z])=true:=by unfold cd;rw[Z!];intro x hx;rcases List.mem_or_eq_of_mem_set hx with hx|rfl;obtain⟨a,_,rfl⟩:=List.mem_map.1 hx;rfl;rfl
theorem szc_repI(k n:Nat)(kd:IntKind)(z:Int):zT k (b? n [n? kd z])=zT k (b? n z):=by cases n<;>rfl
theorem Pv(l:qa)(i:Nat)(c:UInt8):ph ((w? J4 l).set i [n? .u8 (c.toNat:Int)])=some (l.set i c):=by have:[n? .u8 (c.toNat:Int)]=J4 c:=rfl;rw[this,<- J_,lv]
theorem oE_one{α:Type}(k:Nat)(e:α->List PV)(x:Sl α):oE k e [x]=[i? x.nil (zT k x.l) (w? e x.l)]:=rfl
theorem oE_setR{α:Type}(k:Nat)(e:α->List PV)(l:List (Sl α))(n:Nat)(x:Sl α):oE k e (l.set n x)=(oE k e l).set n (i? x.nil (zT k x.l) (w? e x.l)):=by simp[oE,J_]
theorem szcN{α:Type}{l:List α}(h:l.isEmpty=false)(k:Nat):zT k l=k:=by cases l<;>simp_all [zT]
theorem oE_take{α:Type}(k:Nat)(e:α->List PV)(l:List (Sl α))(n:Nat):(oE k e l).take n=oE k e (l.take n):=by simp[oE]
theorem rG2{α:Type}(k:Nat)(e:α->List PV)(l:List α)(te:TI)(β nx:Nat)(c d:List PV)(hk:k=te.size)(hr:qg (l.length+2) te.bytes=true):
  eE te β l.length l.length [c,d] nx (some (.row l.isEmpty (zT k l) (w? e l)))=some (.row β (w? e l++[c,d]).length 0 (w? e l++[c,d]).length,[(β,.row false k (w? e l++[c,d]))],nx):=M6 te β k nx e l c [d] hk hr
theorem rZ(te:TI)(β nx:Nat)(src:List (List PV)):eE te β 0 0 src nx (some (.row true 0 []))=jV te (.row β 0 0 0) src β nx nx:=rfl
theorem fE0(te:TI)(v:AV)(b nx fg:Nat):jV te v [] b nx fg=some (v,[],nx):=rfl
theorem set_id{l:List α}{i:Nat}{x:α}(h:l[i]? =some x):l.set i x=l:=by apply List.ext_getElem?;intro j;rw[List.getElem?_set];split;rename_i h2;subst h2;split;exact h.symm;rename_i h3;rw[List.getElem?_eq_none o?]at h;cases h;rfl
theorem oS1{α:Type}{k i n:Nat}{e:α->List PV}{l:List (Sl α)}{m:List (List PV)}(h:(oE k e l)[i]? =some (i? false n m)):(oE k e l).set i (i? false n m)=oE k e l:=set_id h
theorem oE_end{α:Type}(k:Nat)(e:α->List PV)(l:List (Sl α))(c d:PV)(t:List PV):(oE k e l++c::t).set l.length d=oE k e l++d::t:=by
 have:l.length=(oE k e l).length:=by simp[oE]
 rw[this];simp
theorem oE_app{α:Type}(k:Nat)(e:α->List PV)(l r:List (Sl α)):oE k e (l++r)=oE k e l++oE k e r:=by simp[oE]
end
end Go.Gm
namespace Go.Proofs.YtoflcafolmmaaaaGreat
open Go Go.Gm
def ownL:List (Nat×Bool):=[(22,true),(54,true),(55,true),(90,true),(93,true),(94,true),(107,true),(146,true),(147,true),(157,true),(194,true),(198,true),(199,true),(200,true),(201,true),(214,true),(215,true),(220,true),(221,true),(240,true),(241,true),(276,true)]
def kpL:List (Nat×Bool):=[(17,true),(22,true),(23,true),(25,true),(51,true),(54,true),(89,true),(93,true),(98,true),(116,true),(194,true),(241,true),(276,true),(304,true)]
def prL:List (Nat×List (Nat×List Nat)):=[(29,[(15,[4])]),(378,[(7,[11])])]
def fzL:List (Nat×Bool):=[(421,true)]
def mfL:List (Nat×Bool):=[(80,true),(200,true)]
def cmL:List (Nat×List (Nat×List Da)):=[(17,[(3,[.Gg 4])]),(18,[(27,[.cut 5000]),(43,[.cut 6000])]),(22,[(9,[.prom 19 [1]]),(52,[.focus 1 [21]]),(53,[.pack 1]),(65,[.pack 19]),(999999,[.Gg 14])]),(23,[(3,[.prom 3 [1]]),(11,[.pack 3])]),(40,[(3,[.prom 4011 [1]]),(11,[.pack 4011]),(30,[.Gg 4011])]),(83,[(2,[.focus 4000 [5000]]),(999999,[.pack 4000])]),(84,[(2,[.focus 4000 [2]]),(999999,[.pack 4000])]),(116,[(3,[.prom 4003 [1,1]]),(11,[.pack 4003]),(999999,[.Gg 2003])]),(117,[(7,[.cut 3000]),(9,[.cut 4000])]),(119,[(23,[.cut 3000]),(999999,[.cut 3000])]),(135,[(5,[.pack 4000])]),(136,[(0,[.Gg 0])]),(166,[(48,[.focus 4000 [20]]),(49,[.pack 4000])]),(168,[(12,[.focus 4000 [1,2]]),(13,[.pack 4000]),(26,[.focus 4000 [1,2]]),(27,[.pack 4000]),(28,[.focus 4000 [1,2]]),(29,[.pack 4000]),(40,[.focus 4000 [1,2]]),(41,[.pack 4000])]),(219,[(0,[.Gg 1])])]
def spL:List (Nat×List (Nat×pA)):=[(4,[(0,Lp [1,2,7] [6]),(2,Lp [1,2,7,8] [1,2,7])]),(6,[(0,⟨[0,2,3,5],[2,3],[],[(3,4),(3,5)],[],2⟩)]),(8,[(0,Lq [0,1,5,6] [5] [5])]),(9,[(0,Lp [2,3,5] [4])]),(12,[(0,Lp [0,1,5] [4])]),(13,[(0,Lp [1,2,7] [6])]),(16,[(0,Lp [3,6,42,43,44] [2]),(2,Lp [3,6,7,8,9,42,43,44,54,55,56] [2,3,8,42,43,44])]),(17,[(0,Lp [0,4,5] [2,3,4])]),(19,[(0,Lp [2,3,5] [4])]),(20,[(0,⟨[2,3,12,13,14],[2,3],[],[(3,2)],[],0⟩),(2,Lp [2,3,6,12,13,14,23,24] [2,3,6,12,13,14])]),(21,[(0,⟨[5,6,12,13,14,34,35,36],[12,14],[],[(14,1),(14,2)],[],0⟩)]),(22,[(0,⟨[1,6,7,11,14,17,18,19,20,21],[14,18,19],[19],[(18,1)],[],0⟩),(2,⟨[1,6,7,11,14,17,18,19,20,21,22,23,24,25,26],[1,6,7,11,14,17,18,19,20,21,22,23,24],[24],[(22,2)],[],0⟩)]),(23,[(0,Lq [1,3,4] [3] [3])]),(24,[(0,Lp [0,1,7,8,9] [0,1,4])]),(25,[(0,⟨[3,14,15,16],[3],[],[(3,2)],[],0⟩)]),(26,[(0,Lp [0,1] [])]),(27,[(0,⟨[0,14,15,16],[],[],[],[2000],0⟩)]),(28,[(0,Lp [0,3] [2]),(2,Lp [0,3,4] [0,2,3]),(4,Lp [0,3,4,44,45,46] [0,2,3,4])]),(29,[(0,Lp [0,2,11,12] []),(2,⟨[0,2,3,4,11,12,34,35,36],[0,3,4,11,12],[],[(4,1),(4,2)],[],0⟩)]),(30,[(0,Lq [0,2,3,9,10,11] [0,2,3] [3])]),(31,[(0,Lp [0,1,14,15,16] [1,4,5])]),(32,[(0,Lp [0,1,12,13] [4])]),(33,[(0,⟨[2,5,18,19,20],[4],[],[],[18],0⟩)]),(35,[(0,Lq [0,5,10,11,12] [5] [5]),(2,Lq [0,5,10,11,12,17,18,19] [0,5,10,11,12] [5])]),(36,[(0,Lp [0,1,8,9] [0,1,6,7,8])]),(39,[(0,Lq [1,2,3,10,11,12] [1,2,3] [3]),(2,Lq [1,2,3,5,6,10,11,12,17,18,19] [1,2,3,5,6,10,11,12] [6])]),(40,[(0,⟨[1,2,4,5,10,11,19,20,21],[1,2,4,5,10,11],[],[(11,3)],[],0⟩),(2,Lp [10,11,71,72,73] [10,11])]),(41,[(0,⟨[0,2,3,4,6,10,12,13,14,32,33,34],[10,12,13],[13],[(12,2)],[],0⟩)]),(42,[(0,Lq [1,3,4] [3] [3]),(2,Lq [1,3,4,5,6] [1,3,4] [3])]),(43,[(0,Lp [0,1,5,7,8] [0,1,5,7]),(2,Lp [0,1,5,7,9,10] [9])]),(44,[(0,Lp [0,1,3,6,9,10,11] [0,1,3,6,9,10]),(2,Lp [0,1,3,6,9,10,12] [9])]),(45,[(0,Lp [1,3,7,8] [7])]),(48,[(0,Lp [3,10,11,12] [2])]),(49,[(0,Lq [3,6,7,8] [3] [3])]),(50,[(0,Lp [0,7,8,9] [0])]),(53,[(0,Lp [2,9,10,11] [4])]),(55,[(0,Lp [0,2,3] [])]),(56,[(0,Lp [2,3,11,12,13] [4,5]),(2,Lp [2,3,6,11,12,13,19,20,21] [2,3,4,5,11,12,13])]),(57,[(0,Lp [0,1,5,10,12,13,14] [0,1,5,10,12]),(2,Lp [0,1,5,10,12,91,92,93] [0,10])]),(58,[(0,⟨[1,3,12,13,14],[1,3],[],[],[1],0⟩),(2,Lq [1,3,6] [6] [6])]),(59,[(0,Lp [0,1,2,3,9,10,11,47,48,49] [0,1,2,3,9,10,11]),(2,Lp [0,1,2,3,15,16,17] [8])]),(60,[(0,Lq [1,2,3,7,8,9] [1,2,3] [3])]),(62,[(0,Lq [4,14,15,16] [4] [4])]),(63,[(0,Lp [1,2,5] [1,2,4])]),(67,[(0,Lp [0,3] [2])]),(69,[(0,Lq [0,1,5,6] [5] [5])]),(70,[(0,Lq [0,1,2,7,8] [7] [7]),(2,Lq [14,15,16] [15] [15])]),(71,[(0,Lp [0,1,6] [1,4,5])]),(72,[(0,Lq [0,1,2,10,12,13] [0,12] [12])]),(73,[(0,Lp [0,4,5] [4])]),(74,[(0,Lq [1,2,3,6,8,10,11,12] [3,6,7,10,11] [10,11]),(2,⟨[6,10,11,24,25,26,27],[6,24,25],[],[(25,1)],[],0⟩),(4,⟨[6,10,11,24,25,26,27,28,29,30],[6,10,11,24,25,26,27,29],[],[(29,2)],[],0⟩)]),(78,[(0,Lq [1,2,4,6,7,8,9,10] [2,4,6,7,8,9] [8]),(2,Lq [1,2,4,6,7,8,9,10,11,12] [1,2,4,6,7,8,9,10] [8])]),(79,[(0,Lp [2,3,5] [4])]),(80,[(0,Lp [0,1,5] [4])]),(83,[(0,Lp [0,2,3,5,8,9] [0,2,3,5,8]),(2,Lp [0,3,5,8,10,11] [0])]),(84,[(0,Lp [0,2,4,6,28,29,30] [0])]),(96,[(0,Lp [3,6,7,8] [2,3])]),(98,[(0,Lp [7,8] [7])]),(99,[(0,⟨[1,5,8,9,10],[5],[5],[],[1],0⟩)]),(102,[(0,Lp [1,2,5,12,13,14] [5]),(2,Lp [1,2,5,7,8,12,13,14] [1,2,5,12,13,14])]),(103,[(0,Lp [0,1,7,8] [4])]),(105,[(0,Lp [1,2,3,7,8,9,10] [7,8,9])]),(106,[(0,Lq [1,3,10,12,13,40,41,42] [1,6,7,8,10,12,13] [12]),(2,Lq [1,3,10,12,13,15,16,40,41,42,52,53,54] [1,3,10,12,13,15,16,40,41,42] [16]),(4,Lq [1,3,10,12,15,16,40,41,42,74,75,76] [1,3,10,12,15,40,41,42] [12])]),(111,[(0,Lp [0,1,7,8] [4])]),(114,[(0,Lp [1,3,5] [1,2]),(2,Lp [1,6] [2]),(4,Lp [1,6,7,8] [1,2,6])]),(116,[(0,Lp [1,3,4] [3])]),(117,[(0,Lp [0,1,4] [0,1,4]),(2,Lp [0,4,5,6] [])]),(118,[(0,Lp [0,3] [2]),(2,Lp [0,3,4] [0,2,3]),(4,Lp [0,3,4,5,6] [0,2,3,4])]),(119,[(0,Lp [0,2] []),(2,Lq [0,2,3,4,5] [0,2,3,4] [4])]),(121,[(1,Lp [0,1] [0,1]),(3,Lp [0,1] [1]),(5,Lp [0,1] [0,1]),(7,Lp [0,1] [1])]),(122,[(0,Lq [3,4,5] [4] [4])]),(124,[(0,⟨[0,3,4],[3],[],[],[3],0⟩),(2,Lp [0,3,4,5] [0,3,4,5]),(4,Lq [3,6,7] [6] [6])]),(126,[(0,⟨[0,1,2,8,9],[0,1,2,8,9],[8,9],[],[],2⟩)]),(127,[(0,Lp [0,3,4] [3])]),(129,[(0,Lp [0,1,6] [4,5])]),(130,[(0,Lp [0,2,9,10,16,17] [0,2,9,10,16,17]),(2,Lp [0,2,9,10,16,17] [0,2,9,10,16,17])]),(132,[(0,Lp [0,6,8] [0,6,8])]),(133,[(0,Lp [11,12,13] [11,12]),(2,Lp [15,17,19,20] [15,17,19])]),(134,[(0,Lp [0,3,4,5] [3,4]),(2,Lp [0,3,4,5,6] [0,3,4,5])]),(136,[(0,Lq [1,2,4,6,7,8,9,10] [1,2,4,6,7,9] [9])]),(137,[(0,Lp [0,6,7] [4,5])]),(139,[(0,Lp [0,6,7] [4,5])]),(140,[(0,Lp [2,3,5] [2,3,4]),(2,Lp [2,3,6] [4])]),(141,[(0,Lq [1,2,3,11,12,13] [1,2,3] [3])]),(145,[(0,Lp [0,1,14,15,16] [0])]),(146,[(0,Lp [0,1,2,6,7,8] [0,1,2,6,7]),(2,Lp [0,1,2,6] []),(4,Lp [0,1,2,6,7,8] [0,1,2,6,7])]),(147,[(0,Lp [0,1,2,6,7,8] [0,1,2,6,7]),(2,Lp [0,1,2,6] []),(4,Lp [0,1,2,6,7,8] [0,1,2,6,7])]),(156,[(0,Lp [1,5,12,13,14] [5])]),(157,[(0,Lp [0,1,2,6,7,8] [0,1,2,6,7]),(2,Lp [0,1,2,6] []),(4,Lp [0,1,2,6,7,8] [0,1,2,6,7])]),(158,[(0,Lp [2,5] [4]),(2,Lp [2,5,6,8] [2,4,5])]),(159,[(0,Lp [1,2,5] [4])]),(160,[(0,Lq [0,1,5,6] [5] [5]),(2,Lq [0,1,5,6,7] [0,1,5,6] [5])]),(161,[(0,Lp [0,1,5] [1,4])]),(162,[(0,Lp [0,1,5] [0])]),(163,[(0,Lp [1,2,5] [4])]),(164,[(0,⟨[0,3,4],[3],[],[],[3],0⟩),(2,Lp [0,3,4,5] [0,3,4,5])]),(165,[(0,Lp [2,3,6] [4,5]),(2,Lp [2,3,6,7] [2,3,4,5,6])]),(166,[(0,Lp [0,1,2,3,5,10,12,13,14,15] [0,1,2,3,5,10,12,13,14]),(2,Lp [0,1,5,10,12,13,14,16,17] [0,1,5,10,12,13,14]),(4,Lp [0,1,5,10,12,13,14,20] [0,10])]),(167,[(0,⟨[1,3,4],[1,3],[],[],[1],0⟩),(2,Lq [1,3,5] [5] [5]),(4,Lp [1,3,5,6,7,8] [1,3,5,6,7]),(6,Lp [1,3,5,6,7,9] [1,3,5,6])]),(168,[(0,Lp [0,1,2,3,9,10,11] [0,1,2,3,9,10]),(2,Lp [0,1,2,3,9,12,13] [0,1,2,3,9,12]),(4,Lp [0,1,2,3,14,15] [8])]),(170,[(0,Lp [0,1] [1])]),(171,[(0,Lp [0,1] [0,1])]),(177,[(0,⟨[0,3,4],[3],[],[],[3],0⟩),(2,Lp [0,3,4,5] [0,3,4,5])]),(182,[(0,Lq [0,4,7,8] [0,4,7,8] [7]),(2,Lp [0,4,12,14] [0,4,5,6,12,14])]),(183,[(0,⟨[0,1,6,7],[0,1,6,7],[6,7],[],[],2⟩)]),(185,[(0,Lq [0,3,4] [3] [3])]),(186,[(0,Lp [0,3] [2])]),(187,[(0,Lp [0,3] [3])]),(188,[(0,Lp [0,1,5] [5])]),(189,[(0,Lp [0,2,3,4] [2,3])]),(190,[(0,⟨[0,1,2,6],[],[],[(0,3),(0,4),(0,5)],[],0⟩)]),(191,[(0,Lp [0,2,3] [0,2]),(2,Lp [0,2,4] [0]),(4,Lq [0,5,6] [] [5])]),(192,[(0,Lp [0,3] [2]),(2,Lp [0,3,4,5] [0,3,4])]),(193,[(0,⟨[0,1,3,10,11],[8,9,10],[],[(1,0),(1,1)],[],0⟩)]),(194,[(0,Lq [0,1,2,3,5,6,16] [2,6] [2])]),(195,[(0,Lp [0,1,5] [0,1,5])]),(198,[(0,Lp [0,1,2,3,8] []),(2,Lp [0,1,2,3,8,9] [0,1,2,3,8])]),(199,[(0,Lp [0,1,4,10,11] [0,1,10]),(2,Lp [0,10,13] []),(4,Lp [0,2,4,14,15] [0,2,14]),(6,Lp [0,14,17] []),(8,Lp [0,1,2,3,4,18,19,20,21,22] [0,1,2,3,4,18,19,20])]),(200,[(0,Lp [0,1,2,3,8] []),(2,Lp [0,1,2,3,8,9] [0,1,2,3,8])]),(201,[(0,Lp [0,1,4,10,11] [0,1,10]),(2,Lp [0,10,13] []),(4,Lp [0,2,4,14,15] [0,2,14]),(6,Lp [0,14,17] []),(8,Lp [0,1,2,3,4,18,19,20,21,22] [0,1,2,3,4,18,19,20])]),(205,[(0,Lp [0,1,2,3,8,9] [])]),(208,[(0,Lp [0,5,6,7] [2])]),(209,[(0,Lq [11,12,13] [8,9,10,11,12] [12])]),(212,[(1,Lp [6,16,17,18] [6]),(3,Lp [6,31,32,33] [6])]),(214,[(0,Lp [0,1,2,3,8] []),(2,Lp [0,1,2,3,8,9] [0,1,2,3,8])]),(215,[(0,Lp [0,1,4,10,11] [0,1,10]),(2,Lp [0,10,13] []),(4,Lp [0,2,4,14,15] [0,2,14]),(6,Lp [0,14,17] []),(8,Lp [0,1,2,3,4,18,19,20,21,22] [0,1,2,3,4,18,19,20])]),(216,[(0,Lp [0,1,2] [6])]),(217,[(0,Lp [3,4] [2])]),(218,[(0,Lq [0,3,4] [3] [3])]),(219,[(0,Lq [0,1,5,6] [5] [5])]),(220,[(0,Lp [0,1,5] [4])]),(221,[(0,Lp [0,1,2,7] [6]),(2,Lp [0,1,2,7,8] [0,1,2,6,7])]),(222,[(0,Lp [1,2,3,7,8,9] [6,7,8])]),(223,[(0,Lp [1,3,9,10,14,15,16] [1,6,7,8,10,14,15])]),(227,[(0,Lq [0,3,4] [3] [3])]),(228,[(0,Lp [0,1,2,7,8] [0,6])]),(229,[(0,Lp [0,1,7,8] [0,1,7,8])]),(230,[(0,Lp [0,1,7] [0,1,7])]),(232,[(0,Lq [0,1,7] [0,1,7] [7])]),(235,[(0,Lq [0,1,2,7,8,9] [7] [7])]),(236,[(0,Lp [0,3,4] [2])]),(237,[(0,⟨[0,3,5,8,9,10],[0,3,5,8,9],[],[(9,17)],[],0⟩)]),(238,[(0,Lp [0,1,5] [0,1,4])]),(239,[(0,Lp [0,1,5] [4])]),(240,[(0,Lp [0,1,5] [4])]),(241,[(0,Lq [0,1,2,7] [2] [2])]),(243,[(0,Lp [0,2,4,10,11] [0,2,4,10])]),(244,[(0,Lp [0,2,4,10,11] [0,2,4,10])]),(245,[(0,Lp [0,1,2,6] []),(2,Lp [0,1,2,6,7] [0,1,2,6])]),(246,[(0,Lp [0,6,7,8,9] [0,6,7,8]),(2,Lp [0,6,7,10] [])]),(247,[(0,Lp [0,1,6,7,8,9] [])]),(249,[(0,Lp [0,6,7] [])]),(250,[(0,Lp [0,1,2,7,8] [6]),(2,Lp [0,1,2,7,8] [0,1,2,7,8]),(4,Lp [0,1,2,7,8,9] [0,1,2,7,8]),(6,Lp [0,1,2,7,8,10] [0,1,2,7,8])]),(252,[(0,Lp [0,1,9,10] [9]),(2,Lp [0,1,9,10] [0,1,9,10]),(4,Lp [0,1,9,10] [0,1,9,10])]),(253,[(0,Lp [0,1,10,11] [0,1,10,11]),(2,Lp [0,1,10,11] [0,1,10,11]),(4,Lp [0,1,10,11] [0,1,11]),(6,Lp [0,1,10,11] [0,1,10,11]),(8,Lp [0,1,10,11] [0,1,10,11])]),(256,[(0,Lp [1,2,31,32,33] [1,6,7])]),(259,[(0,Lp [0,1,4] [4,5])]),(265,[(0,Lp [0,1,5,6] [5])]),(266,[(0,Lp [0,2,4,10,11] [0,2,4,10])]),(267,[(0,Lp [0,1,7,8] [0])]),(269,[(0,Lq [4,11,12,13] [8,9,10,11,12] [12])]),(271,[(0,Lq [1,3,5,7,8] [3,7] [7])]),(272,[(0,Lq [0,3,4,5] [3] [3])]),(273,[(0,Lq [0,1,4,6] [4,5] [6]),(2,Lq [0,1,4,6,7] [0,1,4,5,6,7] [7])]),(274,[(1,Lp [0,4,8,10,11] [4,5,6])]),(278,[(0,Lp [0,1,5] [4])]),(280,[(0,Lp [0,1,2,3,10] [])]),(281,[(0,Lp [0,1,2,3,10] [])]),(282,[(0,Lp [0,2,3,8] [])]),(291,[(0,Lq [0,3,4] [3] [3])]),(292,[(0,Lq [0,3,4] [3] [3])]),(293,[(0,⟨[1,4,5,22,23,24],[1,4,5],[],[(5,8)],[],0⟩)]),(294,[(0,Lp [7,8] [7])]),(296,[(0,Lp [0,1,6,7,8] [0,1,6,7])]),(301,[(0,Lp [0,1,2,3,10] [])]),(303,[(0,Lp [0,3] [2])]),(305,[(0,Lp [0,2,4,6] [6,7])]),(306,[(0,Lp [0,1,5] [4])]),(308,[(0,Lp [0,1,5,6] [5])]),(315,[(0,Lq [0,1,2,9] [0,1,9] [9])]),(319,[(0,Lp [0,5,6,7] [2])]),(323,[(0,Lp [0,1] [1])]),(324,[(0,Lp [0,4,5] [])]),(325,[(1,Lp [0,2,3,29,30,31] [8])]),(328,[(0,Lp [1,3,4] [3])]),(329,[(0,Lp [1,3,4] [1,3])]),(330,[(0,Lp [1,3,4] [1,2,3]),(3,Lp [1,3,5] [1,2,3]),(5,Lp [1,3,6] [1,2,3])]),(331,[(0,Lq [0,3,4] [3] [3])]),(332,[(0,Lq [0,2,4,6,8,9] [0,2,4,6,8] [8])]),(333,[(1,Lp [6,7] [6]),(3,Lp [6,8] [6]),(5,Lp [1,9,10,11] [10])]),(336,[(0,Lq [0,1,5,6] [5] [5])]),(350,[(0,Lp [0,3] [2])]),(352,[(0,Lp [1,3,4] [3])]),(353,[(1,Lp [0,1,2,3,12,13,14] [0,2,3,12]),(3,Lp [0,1,2,3,15,16] [8,9,10])]),(356,[(0,Lq [0,3,4] [3] [3])]),(357,[(0,Lq [0,2,4,5] [2,3,4,5] [5])]),(359,[(0,Lp [0,4,5] [4,5])]),(360,[(0,Lp [0,1,7,8] [4])]),(365,[(0,Lp [3,8,9,10] [3])]),(372,[(0,⟨[0,3,4],[3],[],[],[3],0⟩),(2,Lp [0,3,4,5,6] [0,3,4,5,6]),(4,Lq [3,7,8] [7] [7])]),(373,[(0,Lp [3,4] [3])]),(376,[(0,Lp [1,7,8,9] [4])]),(377,[(0,Lp [3,8,9,10] [3])]),(378,[(0,Lp [0,1,2,11,12] [0,1,2,11])]),(383,[(0,Lp [0,1,5] [4])]),(384,[(0,Lp [3,4] [3])])]
noncomputable def G:GP:=gpOf Tryz.prog (fun f=>mL {} (mL [] spL f)) (mL false ownL) (mL false kpL) (fun f=>mL [] (mL [] prL f)) (mL false fzL) (mL false mfL) (fun f=>mL [] (mL [] cmL f))
theorem tbA:(∀ k,G.owned k=mL false ownL k)/\(∀ k,G.sb k=mL false kpL k)/\(∀ k i,G.pre k i=mL [] (mL [] prL k) i)/\(∀ k,G.Gg k=mL false fzL k)/\(∀ k,G.Et k=mL false mfL k)/\(∀ k i,G.spec k i=mL {} (mL [] spL k) i)/\ ∀k i,G.cmd k i=mL [] (mL [] cmL k) i:=⟨fun _=>rfl,fun _=>rfl,fun _ _=>rfl,fun _=>rfl,fun _=>rfl,fun _ _=>rfl,fun _ _=>rfl⟩
theorem tiA0:G.ti 2=some ⟨1,8,.int .i64,[.int .i64 0],false,none⟩/\G.ti 3=some ⟨1,8,.int .i64,[.int .i64 0],false,none⟩/\G.ti 4=some ⟨1,1,.bool,[.bool false],false,none⟩/\G.ti 5=some ⟨1,1,.int .u8,[.int .u8 0],false,none⟩/\G.ti 9=some ⟨1,16,.string,[.str []],false,none⟩/\G.ti 22=tS 58/\G.ti 23=tT 2 16 [(0,1,3),(1,1,3)] [jh,jh]/\G.ti 24=tT 2 16 [(0,1,3),(1,1,3)] [jh,jh]/\G.ti 25=tT 3 32 [(0,2,24),(2,1,9)] [jh,jh,sG]/\G.ti 26=tT 3 32 [(0,2,24),(2,1,9)] [jh,jh,sG]/\G.ti 29=tS 91/\G.ti 30=tS 36/\G.ti 31=tT 3 64 [(0,1,9),(1,1,29),(2,1,30)] [sG,kM,kM]/\G.ti 32=tT 3 64 [(0,1,9),(1,1,29),(2,1,30)] [sG,kM,kM]/\G.ti 34=tS 44/\G.ti 35=tT 2 32 [(0,1,3),(1,1,34)] [jh,kM]/\G.ti 36=tT 2 32 [(0,1,3),(1,1,34)] [jh,kM]/\G.ti 38=tS 26/\G.ti 42=tS 54/\G.ti 43=tT 3 40 [(0,2,24),(2,1,42)] [jh,jh,kM]/\G.ti 44=tT 3 40 [(0,2,24),(2,1,42)] [jh,jh,kM]/\G.ti 45=tS 285/\G.ti 46=tS 48/\G.ti 47=tT 8 104 [(0,1,3),(1,1,9),(2,1,4),(3,1,45),(4,1,3),(5,1,3),(6,1,4),(7,1,46)] [jh,sG,mn,kM,jh,jh,mn,kM]/\G.ti 48=tT 8 104 [(0,1,3),(1,1,9),(2,1,4),(3,1,45),(4,1,3),(5,1,3),(6,1,4),(7,1,46)] [jh,sG,mn,kM,jh,jh,mn,kM]/\G.ti 49=tS 229/\G.ti 50=tT 11 136 [(0,8,48),(8,1,49),(9,1,4),(10,1,4)] [jh,sG,mn,kM,jh,jh,mn,kM,kM,mn,mn]/\G.ti 51=tT 11 136 [(0,8,48),(8,1,49),(9,1,4),(10,1,4)] [jh,sG,mn,kM,jh,jh,mn,kM,kM,mn,mn]/\G.ti 52=tS 9/\G.ti 53=tT 18 200 [(0,2,24),(2,1,3),(3,1,3),(4,1,4),(5,1,4),(6,11,51),(17,1,52)] [jh,jh,jh,jh,mn,mn,jh,sG,mn,kM,jh,jh,mn,kM,kM,mn,mn,kM]/\G.ti 54=tT 18 200 [(0,2,24),(2,1,3),(3,1,3),(4,1,4),(5,1,4),(6,11,51),(17,1,52)] [jh,jh,jh,jh,mn,mn,jh,sG,mn,kM,jh,jh,mn,kM,kM,mn,mn,kM]/\G.ti 57=tT 7 104 [(0,1,3),(1,1,9),(2,1,9),(3,1,3),(4,1,4),(5,1,38),(6,1,29)] [jh,sG,sG,jh,mn,kM,kM]/\G.ti 58=tT 7 104 [(0,1,3),(1,1,9),(2,1,9),(3,1,3),(4,1,4),(5,1,38),(6,1,29)] [jh,sG,sG,jh,mn,kM,kM]/\G.ti 60=some ⟨1,8,.int .i64,[.int .i64 0],false,none⟩/\G.ti 65=tP 72/\G.ti 69=tS 102/\G.ti 70=tS 32/\G.ti 71=tT 6 136 [(0,3,32),(3,1,69),(4,1,70),(5,1,70)] [sG,kM,kM,kM,kM,kM]/\G.ti 72=tT 6 136 [(0,3,32),(3,1,69),(4,1,70),(5,1,70)] [sG,kM,kM,kM,kM,kM]/\G.ti 73=some ⟨1,8,.int .u64,[.int .u64 0],false,none⟩:=by repeat' (first|apply h?|kernel_rfl)
theorem tiA1:G.ti 75=tS 107/\G.ti 76=tT 3 56 [(0,2,36),(2,1,75)] [jh,kM,kM]/\G.ti 77=tT 3 56 [(0,2,36),(2,1,75)] [jh,kM,kM]/\G.ti 80=tS 113/\G.ti 85=tP 130/\G.ti 90=tT 2 16 [(0,1,3),(1,1,3)] [jh,jh]/\G.ti 91=tT 2 16 [(0,1,3),(1,1,3)] [jh,jh]/\G.ti 95=tS 24/\G.ti 101=tT 2 32 [(0,1,9),(1,1,9)] [sG,sG]/\G.ti 102=tT 2 32 [(0,1,9),(1,1,9)] [sG,sG]/\G.ti 107=tS 109/\G.ti 108=tT 2 16 [(0,1,3),(1,1,4)] [jh,mn]/\G.ti 109=tT 2 16 [(0,1,3),(1,1,4)] [jh,mn]/\G.ti 110=tT 6 72 [(0,3,26),(3,1,80),(4,1,3),(5,1,3)] [jh,jh,sG,kM,jh,jh]/\G.ti 111=tT 6 72 [(0,3,26),(3,1,80),(4,1,3),(5,1,3)] [jh,jh,sG,kM,jh,jh]/\G.ti 113=tS 3/\G.ti 116=tS 169/\G.ti 119=tS 4/\G.ti 128=tS 77/\G.ti 129=tT 3 64 [(0,1,9),(1,1,29),(2,1,128)] [sG,kM,kM]/\G.ti 130=tT 3 64 [(0,1,9),(1,1,29),(2,1,128)] [sG,kM,kM]/\G.ti 142=some ⟨1,8,.map 3 3,[.bP],false,none⟩/\G.ti 146=tF/\G.ti 153=tS 209/\G.ti 165=tP 111/\G.ti 168=tT 3 24 [(0,2,24),(2,1,3)] [jh,jh,jh]/\G.ti 169=tT 3 24 [(0,2,24),(2,1,3)] [jh,jh,jh]/\G.ti 173=tF/\G.ti 178=tF/\G.ti 179=tS 181/\G.ti 181=some ⟨2,16,.array 2 3,[.int .i64 0,.int .i64 0],false,none⟩/\G.ti 184=tF/\G.ti 185=tF/\G.ti 189=tF/\G.ti 194=tF/\G.ti 198=tP 202/\G.ti 200=tS 80/\G.ti 201=tT 4 88 [(0,3,32),(3,1,200)] [sG,kM,kM,kM]/\G.ti 202=tT 4 88 [(0,3,32),(3,1,200)] [sG,kM,kM,kM]/\G.ti 205=tP 207:=by repeat' (first|apply h?|kernel_rfl)
theorem tiA2:G.ti 206=tT 3 64 [(0,1,9),(1,1,153),(2,1,113)] [sG,kM,kM]/\G.ti 207=tT 3 64 [(0,1,9),(1,1,153),(2,1,113)] [sG,kM,kM]/\G.ti 208=tT 18 224 [(0,1,3),(1,1,9),(2,1,3),(3,1,4),(4,1,4),(5,11,51),(16,1,52),(17,1,153)] [jh,sG,jh,mn,mn,jh,sG,mn,kM,jh,jh,mn,kM,kM,mn,mn,kM,kM]/\G.ti 209=tT 18 224 [(0,1,3),(1,1,9),(2,1,3),(3,1,4),(4,1,4),(5,11,51),(16,1,52),(17,1,153)] [jh,sG,jh,mn,mn,jh,sG,mn,kM,jh,jh,mn,kM,kM,mn,mn,kM,kM]/\G.ti 218=tS 42/\G.ti 228=tT 5 56 [(0,1,3),(1,1,3),(2,1,3),(3,1,9),(4,1,9)] [jh,jh,jh,sG,sG]/\G.ti 229=tT 5 56 [(0,1,3),(1,1,3),(2,1,3),(3,1,9),(4,1,9)] [jh,jh,jh,sG,sG]/\G.ti 240=tS 245/\G.ti 243=tS 5/\G.ti 244=tT 3 40 [(0,2,24),(2,1,95)] [jh,jh,kM]/\G.ti 245=tT 3 40 [(0,2,24),(2,1,95)] [jh,jh,kM]/\G.ti 266=tT 4 32 [(0,1,3),(1,1,3),(2,1,3),(3,1,3)] [jh,jh,jh,jh]/\G.ti 267=tT 4 32 [(0,1,3),(1,1,3),(2,1,3),(3,1,3)] [jh,jh,jh,jh]/\G.ti 269=tP 272/\G.ti 270=tS 275/\G.ti 271=tT 6 128 [(0,1,69),(1,1,9),(2,1,9),(3,1,270),(4,1,113),(5,1,52)] [kM,sG,sG,kM,kM,kM]/\G.ti 272=tT 6 128 [(0,1,69),(1,1,9),(2,1,9),(3,1,270),(4,1,113),(5,1,52)] [kM,sG,sG,kM,kM,kM]/\G.ti 274=tT 20 216 [(0,1,3),(1,1,9),(2,1,3),(3,1,4),(4,1,4),(5,1,4),(6,11,51),(17,1,52),(18,1,3),(19,1,3)] [jh,sG,jh,mn,mn,mn,jh,sG,mn,kM,jh,jh,mn,kM,kM,mn,mn,kM,jh,jh]/\G.ti 275=tT 20 216 [(0,1,3),(1,1,9),(2,1,3),(3,1,4),(4,1,4),(5,1,4),(6,11,51),(17,1,52),(18,1,3),(19,1,3)] [jh,sG,jh,mn,mn,mn,jh,sG,mn,kM,jh,jh,mn,kM,kM,mn,mn,kM,jh,jh]/\G.ti 276=tP 278/\G.ti 277=tT 2 48 [(0,1,113),(1,1,52)] [kM,kM]/\G.ti 278=tT 2 48 [(0,1,113),(1,1,52)] [kM,kM]/\G.ti 284=tT 2 32 [(0,1,9),(1,1,9)] [sG,sG]/\G.ti 285=tT 2 32 [(0,1,9),(1,1,9)] [sG,sG]/\G.ti 291=some ⟨1,4,.int .u32,[.int .u32 0],false,none⟩/\G.ti 294=some ⟨1,8,.int .u64,[.int .u64 0],false,none⟩/\G.ti 300=tF/\G.ti 305=tP 307/\G.ti 306=tT 2 32 [(0,1,305),(1,1,243)] [.yc,kM]/\G.ti 307=tT 2 32 [(0,1,305),(1,1,243)] [.yc,kM]/\G.ti 308=some ⟨1,16,.other,[.i6],false,none⟩/\G.ti 309=some ⟨1,16,.other,[.i6],false,none⟩/\G.ti 338=some ⟨1,8,.int .i64,[.int .i64 0],false,none⟩/\G.ti 348=tP 354/\G.ti 350=tS 352/\G.ti 351=tT 11 144 [(0,8,48),(8,1,350),(9,1,3),(10,1,3)] [jh,sG,mn,kM,jh,jh,mn,kM,kM,jh,jh]/\G.ti 352=tT 11 144 [(0,8,48),(8,1,350),(9,1,3),(10,1,3)] [jh,sG,mn,kM,jh,jh,mn,kM,kM,jh,jh]/\G.ti 353=tT 17 240 [(0,11,352),(11,1,4),(12,1,52),(13,1,113),(14,1,95),(15,1,3),(16,1,4)] [jh,sG,mn,kM,jh,jh,mn,kM,kM,jh,jh,mn,kM,kM,kM,jh,mn]/\G.ti 354=tT 17 240 [(0,11,352),(11,1,4),(12,1,52),(13,1,113),(14,1,95),(15,1,3),(16,1,4)] [jh,sG,mn,kM,jh,jh,mn,kM,kM,jh,jh,mn,kM,kM,kM,jh,mn]/\G.ti 359=tF:=by repeat' (first|apply h?|kernel_rfl)
theorem tiA3:G.ti 362=tP 5/\G.ti 364=tS 367/\G.ti 367=tT 3 40 [(0,2,24),(2,1,95)] [jh,jh,kM]/\G.ti 371=tP 374/\G.ti 373=tT 2 32 [(0,1,52),(1,1,3)] [kM,jh]/\G.ti 374=tT 2 32 [(0,1,52),(1,1,3)] [kM,jh]/\G.ti 380=some ⟨1,8,.int .u64,[.int .u64 0],false,none⟩/\G.ti 384=tP 3/\G.ti 392=tP 395/\G.ti 394=tT 5 72 [(0,1,52),(1,1,113),(2,1,4),(3,1,3),(4,1,4)] [kM,kM,mn,jh,mn]/\G.ti 395=tT 5 72 [(0,1,52),(1,1,113),(2,1,4),(3,1,3),(4,1,4)] [kM,kM,mn,jh,mn]/\G.ti 402=tP 380/\G.ti 419=tP 421/\G.ti 420=tT 13 144 [(0,1,3),(1,8,48),(9,1,3),(10,1,3),(11,1,3),(12,1,419)] [jh,jh,sG,mn,kM,jh,jh,mn,kM,jh,jh,jh,.yc]/\G.ti 421=tT 13 144 [(0,1,3),(1,8,48),(9,1,3),(10,1,3),(11,1,3),(12,1,419)] [jh,jh,sG,mn,kM,jh,jh,mn,kM,jh,jh,jh,.yc]:=by repeat' (first|apply h?|kernel_rfl)
instance fn55:FnC G 55 (Db Tryz.f55):=fnK
instance fn94:FnC G 94 (Db Tryz.f94):=fnK
instance OD:FnC G 147 (Db Tryz.f147):=fnK
instance fn176:FnC G 176 (Db Tryz.f176):=fnK
instance KW:FnC G 194 (Db Tryz.f194):=fnK
instance Yd:FnC G 200 (Db Tryz.f200):=fnK
end Go.Proofs.YtoflcafolmmaaaaGreat
namespace Go.Proofs.YtoflcafolmmaaaaGreat
open Go Go.Gm Go.RowKit Go.Maps Go.Sort Go.Shelf
def Yp:Go.Shelf.Ren:=⟨fun|7=>101|10=>152|n=>n,fun|23=>142|26=>3|27=>184|28=>185|33=>189|n=>n,fun n=>n⟩
theorem keysA:SlLaysZI.n7 Tryz.prog Yp where
 mixed:=k?
 f7:=⟨Tryz.f101.name,k?,Tryz.func101.trans (congrArg some k?)⟩
 f10:=⟨Tryz.f152.name,k?,Tryz.func152.trans (congrArg some k?)⟩
 t0:=Tryz.underlying0
 a0:=Tryz.isAgg0
 z0:=Tryz.sizeOf0
 v0:=Tryz.zeroValue0
 t4:=Tryz.underlying4
 a4:=Tryz.isAgg4
 z4:=Tryz.sizeOf4
 v4:=Tryz.zeroValue4
 t23:=Tryz.underlying142
 a23:=Tryz.isAgg142
 z23:=Tryz.sizeOf142
 v23:=Tryz.zeroValue142
 t26:=Tryz.underlying3
 a26:=Tryz.isAgg3
 z26:=Tryz.sizeOf3
 v26:=Tryz.zeroValue3
 t27:=Tryz.underlying184
 a27:=Tryz.isAgg184
 z27:=Tryz.sizeOf184
 v27:=Tryz.zeroValue184
 t28:=Tryz.underlying185
 a28:=Tryz.isAgg185
 z28:=Tryz.sizeOf185
 v28:=Tryz.zeroValue185
 t33:=Tryz.underlying189
 a33:=Tryz.isAgg189
 z33:=Tryz.sizeOf189
 v33:=Tryz.zeroValue189
def Ju:Go.Shelf.Ren:=⟨fun|6=>100|8=>150|9=>151|11=>204|12=>205|13=>206|14=>245|15=>246|16=>247|17=>248|18=>249|19=>250|20=>251|21=>252|22=>253|23=>254|24=>255|25=>282|26=>283|27=>284|28=>285|29=>286|30=>148|31=>316|n=>n,fun|24=>113|26=>3|28=>185|33=>189|37=>73|39=>338|40=>339|45=>143|48=>291|50=>294|51=>380|55=>384|57=>402|58=>135|n=>n,fun n=>n⟩
theorem sortedA:SlLaysZI.n6 Tryz.prog Ju where
 mixed:=k?
 f6:=⟨Tryz.f100.name,k?,Tryz.func100.trans (congrArg some k?)⟩
 f8:=⟨Tryz.f150.name,k?,Tryz.func150.trans (congrArg some k?)⟩
 f11:=⟨Tryz.f204.name,k?,Tryz.func204.trans (congrArg some k?)⟩
 t0:=Tryz.underlying0
 a0:=Tryz.isAgg0
 z0:=Tryz.sizeOf0
 v0:=Tryz.zeroValue0
 t24:=Tryz.underlying113
 a24:=Tryz.isAgg113
 z24:=Tryz.sizeOf113
 v24:=Tryz.zeroValue113
 t26:=Tryz.underlying3
 a26:=Tryz.isAgg3
 z26:=Tryz.sizeOf3
 v26:=Tryz.zeroValue3
 t28:=Tryz.underlying185
 a28:=Tryz.isAgg185
 z28:=Tryz.sizeOf185
 v28:=Tryz.zeroValue185
 i26:=k?
def AH:Go.Shelf.Ren:=⟨fun|5=>151|7=>205|8=>206|10=>245|11=>246|12=>247|13=>248|14=>249|15=>250|16=>251|17=>252|18=>253|19=>254|20=>255|30=>282|31=>283|32=>284|33=>285|34=>286|35=>148|40=>316|n=>n,fun|22=>113|23=>113|25=>3|32=>73|35=>338|36=>339|41=>143|44=>291|46=>294|53=>380|57=>384|63=>402|64=>135|n=>n,fun n=>n⟩
theorem sortA:SlLaysM.n5 Tryz.prog AH where
 mixed:=k?
 f5:=⟨Tryz.f151.name,k?,Tryz.func151.trans (congrArg some k?)⟩
 f7:=⟨Tryz.f205.name,k?,Tryz.func205.trans (congrArg some k?)⟩
 f8:=Tryz.func206.trans (congrArg some k?)
 f10:=⟨Tryz.f245.name,k?,Tryz.func245.trans (congrArg some k?)⟩
 f11:=⟨Tryz.f246.name,k?,Tryz.func246.trans (congrArg some k?)⟩
 f12:=⟨Tryz.f247.name,k?,Tryz.func247.trans (congrArg some k?)⟩
 f13:=⟨Tryz.f248.name,k?,Tryz.func248.trans (congrArg some k?)⟩
 f14:=⟨Tryz.f249.name,k?,Tryz.func249.trans (congrArg some k?)⟩
 f15:=⟨Tryz.f250.name,k?,Tryz.func250.trans (congrArg some k?)⟩
 f16:=⟨Tryz.f251.name,k?,Tryz.func251.trans (congrArg some k?)⟩
 f17:=⟨Tryz.f252.name,k?,Tryz.func252.trans (congrArg some k?)⟩
 f18:=⟨Tryz.f253.name,k?,Tryz.func253.trans (congrArg some k?)⟩
 f19:=Tryz.func254.trans (congrArg some k?)
 f20:=Tryz.func255.trans (congrArg some k?)
 f30:=⟨Tryz.f282.name,k?,Tryz.func282.trans (congrArg some k?)⟩
 f31:=Tryz.func283.trans (congrArg some k?)
 f32:=Tryz.func284.trans (congrArg some k?)
 f33:=⟨Tryz.f285.name,k?,Tryz.func285.trans (congrArg some k?)⟩
 f34:=⟨Tryz.f286.name,k?,Tryz.func286.trans (congrArg some k?)⟩
 f35:=⟨Tryz.f148.name,k?,Tryz.func148.trans (congrArg some k?)⟩
 f40:=⟨Tryz.f316.name,k?,Tryz.func316.trans (congrArg some k?)⟩
 t0:=Tryz.underlying0
 a0:=Tryz.isAgg0
 z0:=Tryz.sizeOf0
 v0:=Tryz.zeroValue0
 t3:=Tryz.underlying3
 a3:=Tryz.isAgg3
 z3:=Tryz.sizeOf3
 v3:=Tryz.zeroValue3
 t4:=Tryz.underlying4
 a4:=Tryz.isAgg4
 z4:=Tryz.sizeOf4
 v4:=Tryz.zeroValue4
 t5:=Tryz.underlying5
 a5:=Tryz.isAgg5
 z5:=Tryz.sizeOf5
 v5:=Tryz.zeroValue5
 t9:=Tryz.underlying9
 a9:=Tryz.isAgg9
 z9:=Tryz.sizeOf9
 v9:=Tryz.zeroValue9
 t22:=Tryz.underlying113
 a22:=Tryz.isAgg113
 z22:=Tryz.sizeOf113
 v22:=Tryz.zeroValue113
 t23:=Tryz.underlying113
 a23:=Tryz.isAgg113
 z23:=Tryz.sizeOf113
 v23:=Tryz.zeroValue113
 t25:=Tryz.underlying3
 a25:=Tryz.isAgg3
 z25:=Tryz.sizeOf3
 v25:=Tryz.zeroValue3
 t32:=Tryz.underlying73
 a32:=Tryz.isAgg73
 z32:=Tryz.sizeOf73
 v32:=Tryz.zeroValue73
 t35:=Tryz.underlying338
 a35:=Tryz.isAgg338
 z35:=Tryz.sizeOf338
 v35:=Tryz.zeroValue338
 t36:=Tryz.underlying339
 a36:=Tryz.isAgg339
 z36:=Tryz.sizeOf339
 v36:=Tryz.zeroValue339
 t41:=Tryz.underlying143
 a41:=Tryz.isAgg143
 z41:=Tryz.sizeOf143
 v41:=Tryz.zeroValue143
 t44:=Tryz.underlying291
 a44:=Tryz.isAgg291
 z44:=Tryz.sizeOf291
 v44:=Tryz.zeroValue291
 t46:=Tryz.underlying294
 a46:=Tryz.isAgg294
 z46:=Tryz.sizeOf294
 v46:=Tryz.zeroValue294
 t53:=Tryz.underlying380
 a53:=Tryz.isAgg380
 z53:=Tryz.sizeOf380
 v53:=Tryz.zeroValue380
 t57:=Tryz.underlying384
 a57:=Tryz.isAgg384
 z57:=Tryz.sizeOf384
 v57:=Tryz.zeroValue384
 t63:=Tryz.underlying402
 a63:=Tryz.isAgg402
 z63:=Tryz.sizeOf402
 v63:=Tryz.zeroValue402
 t64:=Tryz.underlying135
 a64:=Tryz.isAgg135
 z64:=Tryz.sizeOf135
 v64:=Tryz.zeroValue135
theorem sortsA(m:Nat):AnyZI.SortsIn Tryz.prog Ju Fence.wide m:=
 ⟨fun rk off cap ss W hH oY mq=>callsIn_wide.2 (AnyM.slices_Sort_int sortA rk off cap ss W hH oY mq),fun p cap W=>callsIn_wide.2 (AnyM.slices_Sort_int_none sortA p cap W)⟩
theorem Mm(l b nn:Nat)(D0:DataW Unit)(w:World)(hl:l<w.heap.size)(hc:w.cell? ⟨l,0,none⟩=some (.map (some b)))(BU:w.ownsMap Tryz.prog 3 (fun _=>some (.nil,[])) b nn D0)(hmax:Maps.size D0<=maxLen)(hbytes:Maps.size D0*8<=140737488355328):
  Calls Tryz.prog 100 #[.func (.func 152) #[] #[.pointer (some ⟨l,0,none⟩)]] w fun e w' => ∃(v:Value)(ss:List Int),e= .returned v/\ss.Perm (intKeys D0)/\
   w'.ownsRow w.heap.size 3 1 v ss.length ((ss.mergeSort (fun x y=>decide (x<=y))).map encZ)/\(v= .slice none 0 0↔ss=[])/\Below w.heap.size w w' :=by
 have hseq:SeqGives Fence.wide 2 Tryz.prog 152 #[.pointer (some ⟨l,0,none⟩)] encZ (fun ss=>ss.Perm (intKeys D0)) (Maps.size D0) w:=
  AnyZI.keys_gives (ρ:=Yp) { keysA with } Fence.wide _ trivial rfl o? l b nn D0 w hl hc BU
 have cS:=AnyZI.sorted_in sortedA Fence.wide 5 trivial trivial trivial trivial rfl o? (sortsA _) (enters_of Tryz.func151 k? rfl) 152 #[.pointer (some ⟨l,0,none⟩)] trivial (enters_of Tryz.func152 k? rfl) _ _ hmax hbytes _ hseq;exact(callsIn_wide (n:=5)).1 cS
def uL(args:List AV)(H:qp):Option (AV×qp):=WR 152 args H
theorem spS_ok{args:List AV}{H:qp}{r:AV}{H' :qp}(hg:uL args H=some (r,H')):enters Tryz.prog 100/\lh Tryz.prog 100 args H r H' :=by unfold uL at hg;exact Mn (kt:=3) Tryz.underlying3 ⟨_,Tryz.func100,k?,k?⟩ Mm hg
def KK:Go.Shelf.Ren:=⟨fun|240=>262|276=>297|n=>n,fun|37=>243|70=>305|72=>307|164=>389|n=>n,fun n=>n⟩
theorem Ol:Lays.n240 Tryz.prog KK where
 mixed:=k?
 f240:=Tryz.func262.trans (congrArg some k?)
 f276:=Tryz.func297.trans (congrArg some k?)
 t0:=Tryz.underlying0
 a0:=Tryz.isAgg0
 z0:=Tryz.sizeOf0
 v0:=Tryz.zeroValue0
 t4:=Tryz.underlying4
 a4:=Tryz.isAgg4
 z4:=Tryz.sizeOf4
 v4:=Tryz.zeroValue4
 t9:=Tryz.underlying9
 a9:=Tryz.isAgg9
 z9:=Tryz.sizeOf9
 v9:=Tryz.zeroValue9
 t20:=Tryz.underlying20
 a20:=Tryz.isAgg20
 z20:=Tryz.sizeOf20
 v20:=Tryz.zeroValue20
 t70:=Tryz.underlying305
 a70:=Tryz.isAgg305
 z70:=Tryz.sizeOf305
 v70:=Tryz.zeroValue305
 t72:=Tryz.underlying307
 a72:=Tryz.isAgg307
 z72:=Tryz.sizeOf307
 v72:=Tryz.zeroValue307
 t164:=Tryz.underlying389
 a164:=Tryz.isAgg389
 z164:=Tryz.sizeOf389
 v164:=Tryz.zeroValue389
theorem Om:Builder.X72 Tryz.prog KK:=⟨k?,k?⟩
theorem spC_ok{args:List AV}{H:qp}{r:AV}{H' :qp}(hg:Kg 307 args H=some (r,H')):enters Tryz.prog 262/\lh Tryz.prog 262 args H r H' :=
 Rx ⟨_,Tryz.func262,k?,k?⟩ (fun b w h=>Any.Builder_copyCheck_used Ol Om b w h) (fun b w h1 h2 h3=>Any.Builder_copyCheck_fresh Ol Om b w h1 h2 h3) hg
def S:pd:=⟨fun f=>if f=100 then some uL else if f=262 then some (Kg 307)else none⟩
theorem S_ok:Qa Tryz.prog S:=fun f g h args H r H' hg=>by simp only[S]at h;split at h;rename_i hf;subst hf;cases h;exact spS_ok hg;split at h;rename_i hf;subst hf;cases h;exact spC_ok hg;cases h
noncomputable abbrev O:xi:=omega G S
end Go.Proofs.YtoflcafolmmaaaaGreat
set_option maxRecDepth 100000
namespace Go.Proofs.YtoflcafolmmaaaaGreat
open Go Go.Gm
structure qn where
 qI:Int
 to:Int
 deriving Inhabited,DecidableEq
def qn.enc(x:qn):List PV:=
 [n? q? x.qI,n? q? x.to]
theorem qn.qQ(x:qn):x.enc=[n? q? x.qI,n? q? x.to]:=rfl
def qn.ok(x:qn):Prop:=eS x.qI/\eS x.to/\True
structure ql where
 span:qn
 text:qa
 deriving Inhabited,DecidableEq
def ql.enc(x:ql):List PV:=
 [n? q? x.span.qI,n? q? x.span.to,R? x.text]
theorem ql.qQ(x:ql):x.enc=[n? q? x.span.qI,n? q? x.span.to,R? x.text]:=rfl
def ql.ok(x:ql):Prop:=qn.ok x.span/\nX x.text/\True
structure qy where
 anchor:Int
 head:Int
 deriving Inhabited,DecidableEq
def qy.enc(x:qy):List PV:=
 [n? q? x.anchor,n? q? x.head]
theorem qy.qQ(x:qy):x.enc=[n? q? x.anchor,n? q? x.head]:=rfl
def qy.ok(x:qy):Prop:=eS x.anchor/\eS x.head/\True
structure qV where
 qI:qa
 to:qa
 deriving Inhabited,DecidableEq
def qV.enc(x:qV):List PV:=
 [R? x.qI,R? x.to]
theorem qV.qQ(x:qV):x.enc=[R? x.qI,R? x.to]:=rfl
def qV.ok(x:qV):Prop:=nX x.qI/\nX x.to/\True
structure qE where
 kind:Int
 char:qa
 not:Bool
 rows:(Sl qV)
 min:Int
 max:Int
 lazy:Bool
 qz:(Sl qE)
 deriving Inhabited
mutual
def qE.enc:qE->List PV
 |⟨x0,x1,x2,x3,x4,x5,x6,x7⟩=>[n? q? x0,R? x1,Z? x2,i? x3.nil (zT 2 x3.l) (w? qV.enc x3.l),n? q? x4,n? q? x5,Z? x6,qE.KO x7]
def qE.KO:Sl qE->PV
 |⟨b,l⟩=> .sl b (zT 8 l) (qE.ZH l)
def qE.ZH:List qE->List (List PV)
 |[]=>[]
 |x::r=>x.enc::qE.ZH r
end
theorem qE.cw: ∀l:List qE,qE.ZH l=l.map qE.enc
 |[]=>rfl
 |x::r=>by simp[qE.ZH,qE.cw r]
theorem qE.ZI(s:Sl qE):qE.KO s= .sl s.nil (zT 8 s.l) (s.l.map qE.enc):=by cases s;simp[qE.KO,qE.cw]
theorem qE.qQ(x:qE):x.enc=[n? q? x.kind,R? x.char,Z? x.not,i? x.rows.nil (zT 2 x.rows.l) (w? qV.enc x.rows.l),n? q? x.min,n? q? x.max,Z? x.lazy,i? x.qz.nil (zT 8 x.qz.l) (w? qE.enc x.qz.l)]:=by cases x;simp[qE.enc,qE.ZI]
mutual
def qE.ok:qE->Prop
 |⟨x0,x1,x2,x3,x4,x5,x6,x7⟩=>eS x0/\nX x1/\bA x2/\(nE qV.ok) x3/\eS x4/\eS x5/\bA x6/\qE.okS x7/\True
def qE.okS:Sl qE->Prop
 |⟨b,l⟩=>(l.length<=maxLen/\(b=true->l=[]))/\qE.okL l
def qE.okL:List qE->Prop
 |[]=>True
 |x::r=>x.ok/\qE.okL r
end
structure zs where
 kind:Int
 n:Int
 Y5:Int
 l9:qa
 Qv:qa
 deriving Inhabited,DecidableEq
def zs.enc(x:zs):List PV:=
 [n? q? x.kind,n? q? x.n,n? q? x.Y5,R? x.l9,R? x.Qv]
theorem zs.qQ(x:zs):x.enc=[n? q? x.kind,n? q? x.n,n? q? x.Y5,R? x.l9,R? x.Qv]:=rfl
def zs.ok(x:zs):Prop:=eS x.kind/\eS x.n/\eS x.Y5/\nX x.l9/\nX x.Qv/\True
structure zn where
 rx:qE
 wo:(Sl zs)
 fold:Bool
 all:Bool
 deriving Inhabited
def zn.enc(x:zn):List PV:=
 [n? q? x.rx.kind,R? x.rx.char,Z? x.rx.not,i? x.rx.rows.nil (zT 2 x.rx.rows.l) (w? qV.enc x.rx.rows.l),n? q? x.rx.min,n? q? x.rx.max,Z? x.rx.lazy,i? x.rx.qz.nil (zT 8 x.rx.qz.l) (w? qE.enc x.rx.qz.l),i? x.wo.nil (zT 5 x.wo.l) (w? zs.enc x.wo.l),Z? x.fold,Z? x.all]
theorem zn.qQ(x:zn):x.enc=[n? q? x.rx.kind,R? x.rx.char,Z? x.rx.not,i? x.rx.rows.nil (zT 2 x.rx.rows.l) (w? qV.enc x.rx.rows.l),n? q? x.rx.min,n? q? x.rx.max,Z? x.rx.lazy,i? x.rx.qz.nil (zT 8 x.rx.qz.l) (w? qE.enc x.rx.qz.l),i? x.wo.nil (zT 5 x.wo.l) (w? zs.enc x.wo.l),Z? x.fold,Z? x.all]:=rfl
def zn.ok(x:zn):Prop:=qE.ok x.rx/\(nE zs.ok) x.wo/\bA x.fold/\bA x.all/\True
structure qr where
 span:qn
 n:Int
 up:Int
 first:Bool
 qL:Bool
 qR:zn
 opts:(Sl qa)
 deriving Inhabited
def qr.enc(x:qr):List PV:=
 [n? q? x.span.qI,n? q? x.span.to,n? q? x.n,n? q? x.up,Z? x.first,Z? x.qL,n? q? x.qR.rx.kind,R? x.qR.rx.char,Z? x.qR.rx.not,i? x.qR.rx.rows.nil (zT 2 x.qR.rx.rows.l) (w? qV.enc x.qR.rx.rows.l),n? q? x.qR.rx.min,n? q? x.qR.rx.max,Z? x.qR.rx.lazy,i? x.qR.rx.qz.nil (zT 8 x.qR.rx.qz.l) (w? qE.enc x.qR.rx.qz.l),i? x.qR.wo.nil (zT 5 x.qR.wo.l) (w? zs.enc x.qR.wo.l),Z? x.qR.fold,Z? x.qR.all,i? x.opts.nil (zT 1 x.opts.l) (w? aw x.opts.l)]
theorem qr.qQ(x:qr):x.enc=[n? q? x.span.qI,n? q? x.span.to,n? q? x.n,n? q? x.up,Z? x.first,Z? x.qL,n? q? x.qR.rx.kind,R? x.qR.rx.char,Z? x.qR.rx.not,i? x.qR.rx.rows.nil (zT 2 x.qR.rx.rows.l) (w? qV.enc x.qR.rx.rows.l),n? q? x.qR.rx.min,n? q? x.qR.rx.max,Z? x.qR.rx.lazy,i? x.qR.rx.qz.nil (zT 8 x.qR.rx.qz.l) (w? qE.enc x.qR.rx.qz.l),i? x.qR.wo.nil (zT 5 x.qR.wo.l) (w? zs.enc x.qR.wo.l),Z? x.qR.fold,Z? x.qR.all,i? x.opts.nil (zT 1 x.opts.l) (w? aw x.opts.l)]:=rfl
def qr.ok(x:qr):Prop:=qn.ok x.span/\eS x.n/\eS x.up/\bA x.first/\bA x.qL/\zn.ok x.qR/\(nE nX) x.opts/\True
structure qk where
 span:qn
 stops:(Sl qr)
 deriving Inhabited
def qk.enc(x:qk):List PV:=
 [n? q? x.span.qI,n? q? x.span.to,i? x.stops.nil (zT 18 x.stops.l) (w? qr.enc x.stops.l)]
theorem qk.qQ(x:qk):x.enc=[n? q? x.span.qI,n? q? x.span.to,i? x.stops.nil (zT 18 x.stops.l) (w? qr.enc x.stops.l)]:=rfl
def qk.ok(x:qk):Prop:=qn.ok x.span/\(nE qr.ok) x.stops/\True
structure qb where
 cur:Int
 insts:(Sl qk)
 deriving Inhabited
def qb.enc(x:qb):List PV:=
 [n? q? x.cur,i? x.insts.nil (zT 3 x.insts.l) (w? qk.enc x.insts.l)]
theorem qb.qQ(x:qb):x.enc=[n? q? x.cur,i? x.insts.nil (zT 3 x.insts.l) (w? qk.enc x.insts.l)]:=rfl
def qb.ok(x:qb):Prop:=eS x.cur/\(nE qk.ok) x.insts/\True
structure qw where
 text:qa
 xO:(Sl qy)
 qm:(Sl qb)
 deriving Inhabited
def qw.enc(x:qw):List PV:=
 [R? x.text,i? x.xO.nil (zT 2 x.xO.l) (w? qy.enc x.xO.l),i? x.qm.nil (zT 2 x.qm.l) (w? qb.enc x.qm.l)]
theorem qw.qQ(x:qw):x.enc=[R? x.text,i? x.xO.nil (zT 2 x.xO.l) (w? qy.enc x.xO.l),i? x.qm.nil (zT 2 x.qm.l) (w? qb.enc x.qm.l)]:=rfl
def qw.ok(x:qw):Prop:=nX x.text/\(nE qy.ok) x.xO/\(nE qb.ok) x.qm/\True
structure bJ where
 kind:Int
 name:qa
 text:qa
 n:Int
 extend:Bool
 edits:(Sl ql)
 xO:(Sl qy)
 deriving Inhabited,DecidableEq
def bJ.enc(x:bJ):List PV:=
 [n? q? x.kind,R? x.name,R? x.text,n? q? x.n,Z? x.extend,i? x.edits.nil (zT 3 x.edits.l) (w? ql.enc x.edits.l),i? x.xO.nil (zT 2 x.xO.l) (w? qy.enc x.xO.l)]
theorem bJ.qQ(x:bJ):x.enc=[n? q? x.kind,R? x.name,R? x.text,n? q? x.n,Z? x.extend,i? x.edits.nil (zT 3 x.edits.l) (w? ql.enc x.edits.l),i? x.xO.nil (zT 2 x.xO.l) (w? qy.enc x.xO.l)]:=rfl
def bJ.ok(x:bJ):Prop:=eS x.kind/\nX x.name/\nX x.text/\eS x.n/\bA x.extend/\(nE ql.ok) x.edits/\(nE qy.ok) x.xO/\True
structure qv where
 name:qa
 value:qa
 deriving Inhabited,DecidableEq
def qv.enc(x:qv):List PV:=
 [R? x.name,R? x.value]
theorem qv.qQ(x:qv):x.enc=[R? x.name,R? x.value]:=rfl
def qv.ok(x:qv):Prop:=nX x.name/\nX x.value/\True
structure zx where
 st:qw
 env:(Sl qv)
 behind:(Sl qw)
 ahead:(Sl qw)
 deriving Inhabited
def zx.enc(x:zx):List PV:=
 [R? x.st.text,i? x.st.xO.nil (zT 2 x.st.xO.l) (w? qy.enc x.st.xO.l),i? x.st.qm.nil (zT 2 x.st.qm.l) (w? qb.enc x.st.qm.l),i? x.env.nil (zT 2 x.env.l) (w? qv.enc x.env.l),i? x.behind.nil (zT 3 x.behind.l) (w? qw.enc x.behind.l),i? x.ahead.nil (zT 3 x.ahead.l) (w? qw.enc x.ahead.l)]
theorem zx.qQ(x:zx):x.enc=[R? x.st.text,i? x.st.xO.nil (zT 2 x.st.xO.l) (w? qy.enc x.st.xO.l),i? x.st.qm.nil (zT 2 x.st.qm.l) (w? qb.enc x.st.qm.l),i? x.env.nil (zT 2 x.env.l) (w? qv.enc x.env.l),i? x.behind.nil (zT 3 x.behind.l) (w? qw.enc x.behind.l),i? x.ahead.nil (zT 3 x.ahead.l) (w? qw.enc x.ahead.l)]:=rfl
def zx.ok(x:zx):Prop:=qw.ok x.st/\(nE qv.ok) x.env/\(nE qw.ok) x.behind/\(nE qw.ok) x.ahead/\True
structure qN where
 id:Int
 held:Bool
 deriving Inhabited,DecidableEq
def qN.enc(x:qN):List PV:=
 [n? q? x.id,Z? x.held]
theorem qN.qQ(x:qN):x.enc=[n? q? x.id,Z? x.held]:=rfl
def qN.ok(x:qN):Prop:=eS x.id/\bA x.held/\True
structure zh where
 nC:qb
 marks:(Sl (Sl qN))
 deriving Inhabited
def zh.enc(x:zh):List PV:=
 [n? q? x.nC.cur,i? x.nC.insts.nil (zT 3 x.nC.insts.l) (w? qk.enc x.nC.insts.l),i? x.marks.nil (zT 1 x.marks.l) (w? (my 2 qN.enc) x.marks.l)]
theorem zh.qQ(x:zh):x.enc=[n? q? x.nC.cur,i? x.nC.insts.nil (zT 3 x.nC.insts.l) (w? qk.enc x.nC.insts.l),i? x.marks.nil (zT 1 x.marks.l) (w? (my 2 qN.enc) x.marks.l)]:=rfl
def zh.ok(x:zh):Prop:=qb.ok x.nC/\(nE (nE qN.ok)) x.marks/\True
structure zI where
 e:ql
 jw:(Sl (Sl Int))
 inst:Int
 qZ:Int
 deriving Inhabited,DecidableEq
def zI.enc(x:zI):List PV:=
 [n? q? x.e.span.qI,n? q? x.e.span.to,R? x.e.text,i? x.jw.nil (zT 1 x.jw.l) (w? (my 1 zK) x.jw.l),n? q? x.inst,n? q? x.qZ]
theorem zI.qQ(x:zI):x.enc=[n? q? x.e.span.qI,n? q? x.e.span.to,R? x.e.text,i? x.jw.nil (zT 1 x.jw.l) (w? (my 1 zK) x.jw.l),n? q? x.inst,n? q? x.qZ]:=rfl
def zI.ok(x:zI):Prop:=ql.ok x.e/\(nE (nE eS)) x.jw/\eS x.inst/\eS x.qZ/\True
structure jF where
 text:qa
 xO:(Sl qy)
 qm:(Sl zh)
 deriving Inhabited
def jF.enc(x:jF):List PV:=
 [R? x.text,i? x.xO.nil (zT 2 x.xO.l) (w? qy.enc x.xO.l),i? x.qm.nil (zT 3 x.qm.l) (w? zh.enc x.qm.l)]
theorem jF.qQ(x:jF):x.enc=[R? x.text,i? x.xO.nil (zT 2 x.xO.l) (w? qy.enc x.xO.l),i? x.qm.nil (zT 3 x.qm.l) (w? zh.enc x.qm.l)]:=rfl
def jF.ok(x:jF):Prop:=nX x.text/\(nE qy.ok) x.xO/\(nE zh.ok) x.qm/\True
structure qB where
 span:qn
 up:Int
 deriving Inhabited,DecidableEq
def qB.enc(x:qB):List PV:=
 [n? q? x.span.qI,n? q? x.span.to,n? q? x.up]
theorem qB.qQ(x:qB):x.enc=[n? q? x.span.qI,n? q? x.span.to,n? q? x.up]:=rfl
def qB.ok(x:qB):Prop:=qn.ok x.span/\eS x.up/\True
structure zN where
 st:qw
 fl:(Sl (Sl (Sl Int)))
 deriving Inhabited
def zN.enc(x:zN):List PV:=
 [R? x.st.text,i? x.st.xO.nil (zT 2 x.st.xO.l) (w? qy.enc x.st.xO.l),i? x.st.qm.nil (zT 2 x.st.qm.l) (w? qb.enc x.st.qm.l),i? x.fl.nil (zT 1 x.fl.l) (w? (my 1 (my 1 zK)) x.fl.l)]
theorem zN.qQ(x:zN):x.enc=[R? x.st.text,i? x.st.xO.nil (zT 2 x.st.xO.l) (w? qy.enc x.st.xO.l),i? x.st.qm.nil (zT 2 x.st.qm.l) (w? qb.enc x.st.qm.l),i? x.fl.nil (zT 1 x.fl.l) (w? (my 1 (my 1 zK)) x.fl.l)]:=rfl
def zN.ok(x:zN):Prop:=qw.ok x.st/\(nE (nE (nE eS))) x.fl/\True
structure qC where
 kind:Int
 text:qa
 n:Int
 has:Bool
 qL:Bool
 qR:zn
 opts:(Sl qa)
 qz:(Sl qC)
 deriving Inhabited
mutual
def qC.enc:qC->List PV
 |⟨x0,x1,x2,x3,x4,x5,x6,x7⟩=>[n? q? x0,R? x1,n? q? x2,Z? x3,Z? x4,n? q? x5.rx.kind,R? x5.rx.char,Z? x5.rx.not,i? x5.rx.rows.nil (zT 2 x5.rx.rows.l) (w? qV.enc x5.rx.rows.l),n? q? x5.rx.min,n? q? x5.rx.max,Z? x5.rx.lazy,i? x5.rx.qz.nil (zT 8 x5.rx.qz.l) (w? qE.enc x5.rx.qz.l),i? x5.wo.nil (zT 5 x5.wo.l) (w? zs.enc x5.wo.l),Z? x5.fold,Z? x5.all,i? x6.nil (zT 1 x6.l) (w? aw x6.l),qC.KO x7]
def qC.KO:Sl qC->PV
 |⟨b,l⟩=> .sl b (zT 18 l) (qC.ZH l)
def qC.ZH:List qC->List (List PV)
 |[]=>[]
 |x::r=>x.enc::qC.ZH r
end
theorem qC.cw: ∀l:List qC,qC.ZH l=l.map qC.enc
 |[]=>rfl
 |x::r=>by simp[qC.ZH,qC.cw r]
theorem qC.ZI(s:Sl qC):qC.KO s= .sl s.nil (zT 18 s.l) (s.l.map qC.enc):=by cases s;simp[qC.KO,qC.cw]
theorem qC.qQ(x:qC):x.enc=[n? q? x.kind,R? x.text,n? q? x.n,Z? x.has,Z? x.qL,n? q? x.qR.rx.kind,R? x.qR.rx.char,Z? x.qR.rx.not,i? x.qR.rx.rows.nil (zT 2 x.qR.rx.rows.l) (w? qV.enc x.qR.rx.rows.l),n? q? x.qR.rx.min,n? q? x.qR.rx.max,Z? x.qR.rx.lazy,i? x.qR.rx.qz.nil (zT 8 x.qR.rx.qz.l) (w? qE.enc x.qR.rx.qz.l),i? x.qR.wo.nil (zT 5 x.qR.wo.l) (w? zs.enc x.qR.wo.l),Z? x.qR.fold,Z? x.qR.all,i? x.opts.nil (zT 1 x.opts.l) (w? aw x.opts.l),i? x.qz.nil (zT 18 x.qz.l) (w? qC.enc x.qz.l)]:=by cases x;simp[qC.enc,qC.ZI]
mutual
def qC.ok:qC->Prop
 |⟨x0,x1,x2,x3,x4,x5,x6,x7⟩=>eS x0/\nX x1/\eS x2/\bA x3/\bA x4/\zn.ok x5/\(nE nX) x6/\qC.okS x7/\True
def qC.okS:Sl qC->Prop
 |⟨b,l⟩=>(l.length<=maxLen/\(b=true->l=[]))/\qC.okL l
def qC.okL:List qC->Prop
 |[]=>True
 |x::r=>x.ok/\qC.okL r
end
structure zE where
 s:qa
 what:(Sl qC)
 PK:(Sl Int)
 deriving Inhabited
def zE.enc(x:zE):List PV:=
 [R? x.s,i? x.what.nil (zT 18 x.what.l) (w? qC.enc x.what.l),i? x.PK.nil (zT 1 x.PK.l) (w? zK x.PK.l)]
theorem zE.qQ(x:zE):x.enc=[R? x.s,i? x.what.nil (zT 18 x.what.l) (w? qC.enc x.what.l),i? x.PK.nil (zT 1 x.PK.l) (w? zK x.PK.l)]:=rfl
def zE.ok(x:zE):Prop:=nX x.s/\(nE qC.ok) x.what/\(nE eS) x.PK/\True
structure jG where
 span:qn
 parts:(Sl qn)
 deriving Inhabited,DecidableEq
def jG.enc(x:jG):List PV:=
 [n? q? x.span.qI,n? q? x.span.to,i? x.parts.nil (zT 2 x.parts.l) (w? qn.enc x.parts.l)]
theorem jG.qQ(x:jG):x.enc=[n? q? x.span.qI,n? q? x.span.to,i? x.parts.nil (zT 2 x.parts.l) (w? qn.enc x.parts.l)]:=rfl
def jG.ok(x:jG):Prop:=qn.ok x.span/\(nE qn.ok) x.parts/\True
structure qX where
 bytes:Int
 breaks:Int
 aq:Int
 dp:Int
 deriving Inhabited,DecidableEq
def qX.enc(x:qX):List PV:=
 [n? q? x.bytes,n? q? x.breaks,n? q? x.aq,n? q? x.dp]
theorem qX.qQ(x:qX):x.enc=[n? q? x.bytes,n? q? x.breaks,n? q? x.aq,n? q? x.dp]:=rfl
def qX.ok(x:qX):Prop:=eS x.bytes/\eS x.breaks/\eS x.aq/\eS x.dp/\True
structure qc where
 kind:Int
 text:qa
 n:Int
 xW:Bool
 first:Bool
 qL:Bool
 qR:zn
 opts:(Sl qa)
 up:Int
 end_:Int
 deriving Inhabited
def qc.enc(x:qc):List PV:=
 [n? q? x.kind,R? x.text,n? q? x.n,Z? x.xW,Z? x.first,Z? x.qL,n? q? x.qR.rx.kind,R? x.qR.rx.char,Z? x.qR.rx.not,i? x.qR.rx.rows.nil (zT 2 x.qR.rx.rows.l) (w? qV.enc x.qR.rx.rows.l),n? q? x.qR.rx.min,n? q? x.qR.rx.max,Z? x.qR.rx.lazy,i? x.qR.rx.qz.nil (zT 8 x.qR.rx.qz.l) (w? qE.enc x.qR.rx.qz.l),i? x.qR.wo.nil (zT 5 x.qR.wo.l) (w? zs.enc x.qR.wo.l),Z? x.qR.fold,Z? x.qR.all,i? x.opts.nil (zT 1 x.opts.l) (w? aw x.opts.l),n? q? x.up,n? q? x.end_]
theorem qc.qQ(x:qc):x.enc=[n? q? x.kind,R? x.text,n? q? x.n,Z? x.xW,Z? x.first,Z? x.qL,n? q? x.qR.rx.kind,R? x.qR.rx.char,Z? x.qR.rx.not,i? x.qR.rx.rows.nil (zT 2 x.qR.rx.rows.l) (w? qV.enc x.qR.rx.rows.l),n? q? x.qR.rx.min,n? q? x.qR.rx.max,Z? x.qR.rx.lazy,i? x.qR.rx.qz.nil (zT 8 x.qR.rx.qz.l) (w? qE.enc x.qR.rx.qz.l),i? x.qR.wo.nil (zT 5 x.qR.wo.l) (w? zs.enc x.qR.wo.l),Z? x.qR.fold,Z? x.qR.all,i? x.opts.nil (zT 1 x.opts.l) (w? aw x.opts.l),n? q? x.up,n? q? x.end_]:=rfl
def qc.ok(x:qc):Prop:=eS x.kind/\nX x.text/\eS x.n/\bA x.xW/\bA x.first/\bA x.qL/\zn.ok x.qR/\(nE nX) x.opts/\eS x.up/\eS x.end_/\True
structure zV where
 env:(Sl qv)
 lead:qa
 unit:qa
 parts:(Sl qc)
 defs:(Sl Int)
 names:(Sl qa)
 deriving Inhabited
def zV.enc(x:zV):List PV:=
 [i? x.env.nil (zT 2 x.env.l) (w? qv.enc x.env.l),R? x.lead,R? x.unit,i? x.parts.nil (zT 20 x.parts.l) (w? qc.enc x.parts.l),i? x.defs.nil (zT 1 x.defs.l) (w? zK x.defs.l),i? x.names.nil (zT 1 x.names.l) (w? aw x.names.l)]
theorem zV.qQ(x:zV):x.enc=[i? x.env.nil (zT 2 x.env.l) (w? qv.enc x.env.l),R? x.lead,R? x.unit,i? x.parts.nil (zT 20 x.parts.l) (w? qc.enc x.parts.l),i? x.defs.nil (zT 1 x.defs.l) (w? zK x.defs.l),i? x.names.nil (zT 1 x.names.l) (w? aw x.names.l)]:=rfl
def zV.ok(x:zV):Prop:=(nE qv.ok) x.env/\nX x.lead/\nX x.unit/\(nE qc.ok) x.parts/\(nE eS) x.defs/\(nE nX) x.names/\True
structure zU where
 ns:(Sl Int)
 ts:(Sl qa)
 deriving Inhabited,DecidableEq
def zU.enc(x:zU):List PV:=
 [i? x.ns.nil (zT 1 x.ns.l) (w? zK x.ns.l),i? x.ts.nil (zT 1 x.ts.l) (w? aw x.ts.l)]
theorem zU.qQ(x:zU):x.enc=[i? x.ns.nil (zT 1 x.ns.l) (w? zK x.ns.l),i? x.ts.nil (zT 1 x.ts.l) (w? aw x.ts.l)]:=rfl
def zU.ok(x:zU):Prop:=(nE eS) x.ns/\(nE nX) x.ts/\True
structure qP where
 rx:qE
 qz:(Sl qP)
 lo:Int
 hi:Int
 deriving Inhabited
mutual
def qP.enc:qP->List PV
 |⟨x0,x1,x2,x3⟩=>[n? q? x0.kind,R? x0.char,Z? x0.not,i? x0.rows.nil (zT 2 x0.rows.l) (w? qV.enc x0.rows.l),n? q? x0.min,n? q? x0.max,Z? x0.lazy,i? x0.qz.nil (zT 8 x0.qz.l) (w? qE.enc x0.qz.l),qP.KO x1,n? q? x2,n? q? x3]
def qP.KO:Sl qP->PV
 |⟨b,l⟩=> .sl b (zT 11 l) (qP.ZH l)
def qP.ZH:List qP->List (List PV)
 |[]=>[]
 |x::r=>x.enc::qP.ZH r
end
theorem qP.cw: ∀l:List qP,qP.ZH l=l.map qP.enc
 |[]=>rfl
 |x::r=>by simp[qP.ZH,qP.cw r]
theorem qP.ZI(s:Sl qP):qP.KO s= .sl s.nil (zT 11 s.l) (s.l.map qP.enc):=by cases s;simp[qP.KO,qP.cw]
theorem qP.qQ(x:qP):x.enc=[n? q? x.rx.kind,R? x.rx.char,Z? x.rx.not,i? x.rx.rows.nil (zT 2 x.rx.rows.l) (w? qV.enc x.rx.rows.l),n? q? x.rx.min,n? q? x.rx.max,Z? x.rx.lazy,i? x.rx.qz.nil (zT 8 x.rx.qz.l) (w? qE.enc x.rx.qz.l),i? x.qz.nil (zT 11 x.qz.l) (w? qP.enc x.qz.l),n? q? x.lo,n? q? x.hi]:=by cases x;simp[qP.enc,qP.ZI]
mutual
def qP.ok:qP->Prop
 |⟨x0,x1,x2,x3⟩=>qE.ok x0/\qP.okS x1/\eS x2/\eS x3/\True
def qP.okS:Sl qP->Prop
 |⟨b,l⟩=>(l.length<=maxLen/\(b=true->l=[]))/\qP.okL l
def qP.okL:List qP->Prop
 |[]=>True
 |x::r=>x.ok/\qP.okL r
end
structure wq where
 top:qP
 fold:Bool
 chars:(Sl qa)
 places:(Sl Int)
 parts:(Sl qn)
 fuel:Int
 out:Bool
 deriving Inhabited
def wq.enc(x:wq):List PV:=
 [n? q? x.top.rx.kind,R? x.top.rx.char,Z? x.top.rx.not,i? x.top.rx.rows.nil (zT 2 x.top.rx.rows.l) (w? qV.enc x.top.rx.rows.l),n? q? x.top.rx.min,n? q? x.top.rx.max,Z? x.top.rx.lazy,i? x.top.rx.qz.nil (zT 8 x.top.rx.qz.l) (w? qE.enc x.top.rx.qz.l),i? x.top.qz.nil (zT 11 x.top.qz.l) (w? qP.enc x.top.qz.l),n? q? x.top.lo,n? q? x.top.hi,Z? x.fold,i? x.chars.nil (zT 1 x.chars.l) (w? aw x.chars.l),i? x.places.nil (zT 1 x.places.l) (w? zK x.places.l),i? x.parts.nil (zT 2 x.parts.l) (w? qn.enc x.parts.l),n? q? x.fuel,Z? x.out]
theorem wq.qQ(x:wq):x.enc=[n? q? x.top.rx.kind,R? x.top.rx.char,Z? x.top.rx.not,i? x.top.rx.rows.nil (zT 2 x.top.rx.rows.l) (w? qV.enc x.top.rx.rows.l),n? q? x.top.rx.min,n? q? x.top.rx.max,Z? x.top.rx.lazy,i? x.top.rx.qz.nil (zT 8 x.top.rx.qz.l) (w? qE.enc x.top.rx.qz.l),i? x.top.qz.nil (zT 11 x.top.qz.l) (w? qP.enc x.top.qz.l),n? q? x.top.lo,n? q? x.top.hi,Z? x.fold,i? x.chars.nil (zT 1 x.chars.l) (w? aw x.chars.l),i? x.places.nil (zT 1 x.places.l) (w? zK x.places.l),i? x.parts.nil (zT 2 x.parts.l) (w? qn.enc x.parts.l),n? q? x.fuel,Z? x.out]:=rfl
def wq.ok(x:wq):Prop:=qP.ok x.top/\bA x.fold/\(nE nX) x.chars/\(nE eS) x.places/\(nE qn.ok) x.parts/\eS x.fuel/\bA x.out/\True
structure qj where
 span:qn
 parts:(Sl qn)
 deriving Inhabited,DecidableEq
def qj.enc(x:qj):List PV:=
 [n? q? x.span.qI,n? q? x.span.to,i? x.parts.nil (zT 2 x.parts.l) (w? qn.enc x.parts.l)]
theorem qj.qQ(x:qj):x.enc=[n? q? x.span.qI,n? q? x.span.to,i? x.parts.nil (zT 2 x.parts.l) (w? qn.enc x.parts.l)]:=rfl
def qj.ok(x:qj):Prop:=qn.ok x.span/\(nE qn.ok) x.parts/\True
structure qd where
 cs:(Sl qa)
 qo:Int
 deriving Inhabited,DecidableEq
def qd.enc(x:qd):List PV:=
 [i? x.cs.nil (zT 1 x.cs.l) (w? aw x.cs.l),n? q? x.qo]
theorem qd.qQ(x:qd):x.enc=[i? x.cs.nil (zT 1 x.cs.l) (w? aw x.cs.l),n? q? x.qo]:=rfl
def qd.ok(x:qd):Prop:=(nE nX) x.cs/\eS x.qo/\True
structure qf where
 cs:(Sl qa)
 wB:(Sl Int)
 fold:Bool
 fuel:Int
 out:Bool
 deriving Inhabited,DecidableEq
def qf.enc(x:qf):List PV:=
 [i? x.cs.nil (zT 1 x.cs.l) (w? aw x.cs.l),i? x.wB.nil (zT 1 x.wB.l) (w? zK x.wB.l),Z? x.fold,n? q? x.fuel,Z? x.out]
theorem qf.qQ(x:qf):x.enc=[i? x.cs.nil (zT 1 x.cs.l) (w? aw x.cs.l),i? x.wB.nil (zT 1 x.wB.l) (w? zK x.wB.l),Z? x.fold,n? q? x.fuel,Z? x.out]:=rfl
def qf.ok(x:qf):Prop:=(nE nX) x.cs/\(nE eS) x.wB/\bA x.fold/\eS x.fuel/\bA x.out/\True
structure qe where
 kind:Int
 x:qE
 g:Int
 many:Int
 qI:Int
 rest:(Option qe)
 deriving Inhabited
mutual
def qe.enc:qe->List PV
 |⟨x0,x1,x2,x3,x4,x5⟩=>[n? q? x0,n? q? x1.kind,R? x1.char,Z? x1.not,i? x1.rows.nil (zT 2 x1.rows.l) (w? qV.enc x1.rows.l),n? q? x1.min,n? q? x1.max,Z? x1.lazy,i? x1.qz.nil (zT 8 x1.qz.l) (w? qE.enc x1.qz.l),n? q? x2,n? q? x3,n? q? x4,qe.cx x5]
def qe.cx:Option qe->PV
 |none=> .yc
 |some x=> .rp x.enc
end
theorem qe.Y9:qe.cx none= .yc:=by simp[qe.cx]
theorem qe.Ya(x:qe):qe.cx (some x)= .rp x.enc:=by simp[qe.cx]
theorem qe.S5(k:Option qe)(H:qp):dc .ptr (.pv (qe.cx k)) H=some k.isNone:=by cases k<;>simp[qe.cx,dc]
theorem qe.Bp(k:Option qe):y! (.pv (qe.cx k))=[.pv (qe.cx k)]:=by cases k<;>simp[qe.cx,y!]
theorem qe.qQ(x:qe):x.enc=[n? q? x.kind,n? q? x.x.kind,R? x.x.char,Z? x.x.not,i? x.x.rows.nil (zT 2 x.x.rows.l) (w? qV.enc x.x.rows.l),n? q? x.x.min,n? q? x.x.max,Z? x.x.lazy,i? x.x.qz.nil (zT 8 x.x.qz.l) (w? qE.enc x.x.qz.l),n? q? x.g,n? q? x.many,n? q? x.qI,qe.cx x.rest]:=by cases x;simp[qe.enc]
def qe.ok(_:qe):Prop:=True
def O8:Option Bool:=some true
theorem JR{α:Type}{u0 u1 u2 u3 u4 u5 u6:Bool}{p q:Option α}{r:α}{P:Prop}(f:((u0=true/\u1=true/\az/\az/\az/\az/\az)\/(u0=false/\az/\u2=true/\u3=true/\az/\az/\az)\/(u0=false/\az/\u2=false/\az/\u4=true/\u5=true/\az)\/(u0=false/\az/\u2=false/\az/\u4=false/\az/\u6=true)\/(u0=false/\az/\u2=false/\az/\u4=true/\u5=false/\u6=true)\/(u0=false/\az/\u2=true/\u3=false/\u4=true/\u5=true/\az)\/(u0=false/\az/\u2=true/\u3=false/\u4=false/\az/\u6=true)\/(u0=false/\az/\u2=true/\u3=false/\u4=true/\u5=false/\u6=true)\/(u0=true/\u1=false/\u2=true/\u3=true/\az/\az/\az)\/(u0=true/\u1=false/\u2=false/\az/\u4=true/\u5=true/\az)\/(u0=true/\u1=false/\u2=false/\az/\u4=false/\az/\u6=true)\/(u0=true/\u1=false/\u2=false/\az/\u4=true/\u5=false/\u6=true)\/(u0=true/\u1=false/\u2=true/\u3=false/\u4=true/\u5=true/\az)\/(u0=true/\u1=false/\u2=true/\u3=false/\u4=false/\az/\u6=true)\/(u0=true/\u1=false/\u2=true/\u3=false/\u4=true/\u5=false/\u6=true))->p=some r->P)(g:((u0=false/\az/\u2=false/\az/\u4=false/\az/\u6=false)\/(u0=false/\az/\u2=false/\az/\u4=true/\u5=false/\u6=false)\/(u0=false/\az/\u2=true/\u3=false/\u4=false/\az/\u6=false)\/(u0=false/\az/\u2=true/\u3=false/\u4=true/\u5=false/\u6=false)\/(u0=true/\u1=false/\u2=false/\az/\u4=false/\az/\u6=false)\/(u0=true/\u1=false/\u2=false/\az/\u4=true/\u5=false/\u6=false)\/(u0=true/\u1=false/\u2=true/\u3=false/\u4=false/\az/\u6=false)\/(u0=true/\u1=false/\u2=true/\u3=false/\u4=true/\u5=false/\u6=false))->q=some r->P)(h:(if ((u0&&u1) || ((u2&&u3) || ((u4&&u5) || u6)))=true then p else q)=some r):P:=by cases u0<;>cases u1<;>cases u2<;>cases u3<;>cases u4<;>cases u5<;>cases u6<;>simp_all [az]
theorem slot_0(s:St):bx s 0=s.env.get 0:=rfl
theorem slot_1(s:St):bx s 1=s.env.get 1:=rfl
theorem slot_2(s:St):bx s 2=s.env.get 2:=rfl
theorem slot_3(s:St):bx s 3=s.env.get 3:=rfl
theorem slot_4(s:St):bx s 4=s.env.get 4:=rfl
theorem slot_14(s:St):bx s 14=s.env.get 14:=rfl
theorem slot_19(s:St):bx s 19=s.env.get 19:=rfl
theorem slot_20(s:St):bx s 20=s.env.get 20:=rfl
theorem slot_21(s:St):bx s 21=s.env.get 21:=rfl
theorem Az(s:St):bx s 2003=match s.env.get 3 with| .ptr b o=>(match s.heap.get b with|some (.box c)=>(match c[o+1]? with|some v=>v|none=> .undef)|_=> .undef)|_=> .undef:=rfl
theorem AA(s:St):bx s 3000=match s.env.get 0 with| .ptr b o=>(match s.heap.get b with|some (.box c)=>(match c[o+2]? with|some v=>v|none=> .undef)|_=> .undef)|_=> .undef:=rfl
theorem AB(s:St):bx s 4000=match s.env.get 0 with| .ptr b o=>(match s.heap.get b with|some (.box c)=>(match c[o+3]? with|some v=>v|none=> .undef)|_=> .undef)|_=> .undef:=rfl
theorem AD(s:St):bx s 4003=match s.env.get 3 with| .ptr b o=>(match s.heap.get b with|some (.box c)=>(match c[o+3]? with|some v=>v|none=> .undef)|_=> .undef)|_=> .undef:=rfl
theorem AE(s:St):bx s 4011=match s.env.get 11 with| .ptr b o=>(match s.heap.get b with|some (.box c)=>(match c[o+3]? with|some v=>v|none=> .undef)|_=> .undef)|_=> .undef:=rfl
theorem AF(s:St):bx s 5000=match s.env.get 0 with| .ptr b o=>(match s.heap.get b with|some (.box c)=>(match c[o+4]? with|some v=>v|none=> .undef)|_=> .undef)|_=> .undef:=rfl
theorem AG(s:St):bx s 6000=match s.env.get 0 with| .ptr b o=>(match s.heap.get b with|some (.box c)=>(match c[o+5]? with|some v=>v|none=> .undef)|_=> .undef)|_=> .undef:=rfl
theorem natA(n:Nat):0+n=n:=Nat.zero_add n
def en:=PLift.up (h? (h? (h? (h? (h? encx.down (h? wordx.down @natA)) (h? @Int.cast_ofNat_Int (h? @List.append_nil.{0} @List.nil_append.{0}))) (h? (h? @List.cons_append.{0} (h? @List.map_append.{0,0} @List.map_cons.{0,0})) (h? (h? @List.map_nil.{0,0} @J_.{0,0}) (h? @List.length_append.{0} @List.length_cons.{0})))) (h? (h? (h? @List.length_nil.{0} (h? @List.length_map.{0,0} @qn.qQ)) (h? @ql.qQ (h? @qy.qQ @qV.qQ))) (h? (h? @qE.qQ (h? @zs.qQ @zn.qQ)) (h? (h? @qr.qQ @qk.qQ) (h? @qb.qQ @qw.qQ))))) (h? (h? (h? (h? @bJ.qQ (h? @qv.qQ @zx.qQ)) (h? @qN.qQ (h? @zh.qQ @zI.qQ))) (h? (h? @jF.qQ (h? @qB.qQ @zN.qQ)) (h? (h? @qC.qQ @zE.qQ) (h? @jG.qQ @qX.qQ)))) (h? (h? (h? @qc.qQ (h? @zV.qQ @zU.qQ)) (h? @qP.qQ (h? @wq.qQ @qj.qQ))) (h? (h? @qd.qQ (h? @qf.qQ @qe.S5)) (h? (h? @qe.Bp @qe.Y9) (h? @qe.Ya @qe.qQ))))))
end Go.Proofs.YtoflcafolmmaaaaGreat
