/-
  Go's structs as Lean's.
-/
import Derived.Test.YtnfdnckadgcifaaGreatQac
import Derived.Test.YtnfdnckadgcifaaGreatRows
import Derived.Shelf.SlIterI.Nil
import Derived.Shelf.SortM.Plain
import Derived.Shelf.SortM.SortNone
import Derived.Shelf.Lays
import Derived.Shelf.Strings.Builder1
import Derived.Shelf.Strings.BuilderX
open And renaming intro->g?
open Go.Gm.AV renaming cells->g!
open Go.Gm.PV renaming int->m?,sl->l?,bool->Z?,str->P?
open Go.IntKind renaming i64->q?,u8->R?,signed->s_,bits->X_,wrap->L_
open List renaming map->w?,length_cons->b?,map_cons->d?,replicate->e?,range->F?,all_eq_true->V!,map_set->t_,cons_append->q0p,map_drop->q11,map_take->q12
open Option renaming bind_eq_some_iff->J!
set_option linter.unusedSimpArgs false
set_option linter.unusedVariables false
namespace Go.Gm
open Go
abbrev qa:=List UInt8
structure Sl (α:Type) where
 nil:Bool
 l:List α
 deriving Inhabited,DecidableEq
def pR(s:qa):List PV:=[.str s]
def zY(n:Int):List PV:=[.int .i64 n]
def kE(k:IntKind)(n:Int):List PV:=[.int k n]
def lp(b:Bool):List PV:=[.bool b]
def J8(b:UInt8):List PV:=[.int .u8 b.toNat]
def bo{α:Type}(k:Nat)(e:α->List PV)(s:Sl α):List PV:=[.sl s.nil (xd k s.l) (w? e s.l)]
def IU{α:Type}(e:α->List PV)(s:α×α):List PV:=e s.1++e s.2
abbrev dT:Prop:= ∀x:Bool,(x&&true)=x
def qh{α:Type}(l:List α)(i:Int):Option α:=if 0<=i then l[i.toNat]? else none
def kH{α:Type}(l:List α)(lo hi:Int):Option (List α):=if(0<=lo/\0<=hi)/\(lo.toNat<=hi.toNat/\hi.toNat<=l.length)then some ((l.take hi.toNat).drop lo.toNat)else none
def mj{α:Type}(l:List α)(lo:Int):Option (List α):=if 0<=lo/\lo.toNat<=l.length then some (l.drop lo.toNat)else none
def we{α:Type}(l:List α)(hi:Int):Option (List α):=if 0<=hi/\hi.toNat<=l.length then some (l.take hi.toNat)else none
def u8(n:Int):UInt8:=UInt8.ofNat n.toNat
def V1(n b:Nat):Bool:=qi n b
section
variable {α:Type} {l:List α} {i lo hi:Int} {x:α} {r:List α}
theorem lF(h:qh l i=some x)(k:IntKind):vW (.pv (.int k i))=some i.toNat:=by unfold qh at h;split at h;rename_i h0;simp[vW,h0];cases h
theorem LX(k:IntKind){n:Int}(h:0<=n):vW (.pv (.int k n))=some n.toNat:=by simp[vW,h]
theorem oi(h:qh l i=some x):l[i.toNat]? =some x:=by unfold qh at h;split at h;exact h;cases h
theorem lE{β:Type}(e:α->β)(h:qh l i=some x):(w? e l)[i.toNat]? =some (e x):=by simp[oi h]
theorem Hc(h:qh l i=some x):l.isEmpty=false:=by have:=oi h;cases l<;>simp_all
theorem ZM(h:qh l i=some x)(k:Nat):xd k l=k:=by have:=oi h;cases l<;>simp_all [xd]
theorem F2(h:qh l i=some x)(k:Nat):(xd k l=k)=True:=by simp[ZM h]
theorem Q9(h:qh l i=some x):(i.toNat<l.length)=True:=by have:=oi h;simp only[eq_iff_iff,iff_true];exact(qL this).1
theorem CT(h:kH l lo hi=some r)(k:IntKind):vW (.pv (.int k lo))=some lo.toNat:=by unfold kH at h;split at h;rename_i h0;simp[vW,h0.1.1];cases h
theorem CR(h:kH l lo hi=some r)(k:IntKind):vW (.pv (.int k hi))=some hi.toNat:=by unfold kH at h;split at h;rename_i h0;simp[vW,h0.1.2];cases h
theorem CS(h:kH l lo hi=some r):(lo.toNat<=hi.toNat)=True:=by unfold kH at h;split at h;rename_i h0;simp[h0.2.1];cases h
theorem MB(h:kH l lo hi=some r):(hi.toNat<=l.length)=True:=by unfold kH at h;split at h;rename_i h0;simp[h0.2.2];cases h
theorem Xf(h:kH l lo hi=some r):(l.take hi.toNat).drop lo.toNat=r:=by unfold kH at h;split at h<;>simp_all
theorem subF_lo(h:mj l lo=some r)(k:IntKind):vW (.pv (.int k lo))=some lo.toNat:=by unfold mj at h;split at h;rename_i h0;simp[vW,h0.1];cases h
theorem subF_le(h:mj l lo=some r):(lo.toNat<=l.length)=True:=by unfold mj at h;split at h;rename_i h0;simp[h0.2];cases h
theorem Ge(h:mj l lo=some r):l.drop lo.toNat=r:=by unfold mj at h;split at h<;>simp_all
theorem subT_hi(h:we l hi=some r)(k:IntKind):vW (.pv (.int k hi))=some hi.toNat:=by unfold we at h;split at h;rename_i h0;simp[vW,h0.1];cases h
theorem subT_len(h:we l hi=some r):(hi.toNat<=l.length)=True:=by unfold we at h;split at h;rename_i h0;simp[h0.2];cases h
theorem Gg(h:we l hi=some r):l.take hi.toNat=r:=by unfold we at h;split at h<;>simp_all
theorem Nu{β:Type}(e:α->β)(h:kH l lo hi=some r):((w? e l).take hi.toNat).drop lo.toNat=w? e r:=by rw[<- q12,<- q11,Xf h]
theorem LA{β:Type}(e:α->β)(h:mj l lo=some r):(w? e l).drop lo.toNat=w? e r:=by rw[<- q11,Ge h]
theorem LB{β:Type}(e:α->β)(h:we l hi=some r):(w? e l).take hi.toNat=w? e r:=by rw[<- q12,Gg h]
theorem MG(h:kH l lo hi=some r)(k:Nat):xd (xd k l) r=xd k r:=by have:=Xf h;cases r with|nil=>rfl|cons=>cases l<;>simp_all [xd]
theorem szc_subF(h:mj l lo=some r)(k:Nat):xd (xd k l) r=xd k r:=by have:=Ge h;cases r with|nil=>rfl|cons=>cases l<;>simp_all [xd]
theorem szc_subT(h:we l hi=some r)(k:Nat):xd (xd k l) r=xd k r:=by have:=Gg h;cases r with|nil=>rfl|cons=>cases l<;>simp_all [xd]
theorem CV{β:Type}(k:Nat)(e:α->β)(l:List α):xd k (w? e l)=xd k l:=by cases l<;>rfl
theorem szc_szc(k:Nat)(l:List α):xd (xd k l) l=xd k l:=by cases l<;>rfl
theorem CW(k:Nat):xd k ([]:List α)=0:=rfl
theorem ME(k:Nat)(x:α)(l:List α):xd k (x::l)=k:=rfl
theorem MF(k:Nat)(l:List α)(x:α)(r:List α):xd k (l++x::r)=k:=by cases l<;>rfl
theorem CX(k:Nat)(l:List α)(i:Nat)(x:α):xd k (l.set i x)=xd k l:=by cases l<;>cases i<;>rfl
theorem Sb{β:Type}(e:α->β)(l:List α):(w? e l).isEmpty=l.isEmpty:=by cases l<;>rfl
theorem BO(l:List α)(x:α)(r:List α):(l++x::r).isEmpty=false:=by cases l<;>rfl
theorem Sd(l:List α)(i:Nat)(x:α):(l.set i x).isEmpty=l.isEmpty:=by cases l<;>cases i<;>rfl
theorem BM(x:α)(l:List α):(x::l).isEmpty=false:=rfl
theorem Sc:([]:List α).isEmpty=true:=rfl
theorem szc_or{β:Type}(k:Nat)(e:α->β)(l:List α):(xd k l=k\/w? e l=[])=True:=by cases l<;>simp[xd]
theorem map_set{β:Type}(e:α->β)(l:List α)(i:Nat)(x:α):(w? e l).set i (e x)=w? e (l.set i x):=by simp[t_]
theorem Lz(s:qa):w? (fun b=>[m? .u8 (b.toNat:Int)]) s=w? J8 s:=rfl
theorem lq: ∀s:qa,mZ (w? J8 s)=some s
 |[]=>rfl
 |b::s=>by simp[J8,mZ,lq s]
theorem u8_nat(b:UInt8):u8 (b.toNat:Int)=b:=by simp[u8]
theorem D3(n:Int):((u8 (R?.wrap n)).toNat:Int)=R?.wrap n:=by
 have h:0<=R?.wrap n/\R?.wrap n<256:=by simp only[L_,X_,s_];constructor;simp;omega;simp;omega
 simp only[u8,UInt8.toNat_ofNat'];omega
theorem range1:F? 1=[0]:=rfl
theorem range2:F? 2=[0,1]:=rfl
theorem range3:F? 3=[0,1,2]:=rfl
theorem range4:F? 4=[0,1,2,3]:=rfl
theorem range5:F? 5=[0,1,2,3,4]:=rfl
theorem range6:F? 6=[0,1,2,3,4,5]:=rfl
def eE(te:TI)(β L n:Nat)(src:List (List PV))(nx:Nat):Option qJ->Option my
 |some (.row true _ es)=>if L=es.length/\n=0 then ki te (.row β L 0 n) src β nx nx else none
 |some (.row false sz es)=>
  if L=es.length/\sz=te.size/\qi (n+src.length) te.bytes=true then
   if n=es.length then some (.row β (es++src).length 0 (es++src).length,[(β,.row false te.size (es++src))],nx)
   else some (.row β (es.take n++src++es.drop (n+src.length)).length 0 (n+src.length),[(β,.row false te.size (es.take n++src++es.drop (n+src.length)))],nx)
  else none
 |_=>none
theorem rowApp_F(te:TI)(β L n nx sz:Nat)(es src:List (List PV)):eE te β L n src nx (some (.row false sz es))=
  if L=es.length/\sz=te.size/\qi (n+src.length) te.bytes=true then
   if n=es.length then some (.row β (es++src).length 0 (es++src).length,[(β,.row false te.size (es++src))],nx)
   else some (.row β (es.take n++src++es.drop (n+src.length)).length 0 (n+src.length),[(β,.row false te.size (es.take n++src++es.drop (n+src.length)))],nx)
  else none:=rfl
theorem rowApp_T(te:TI)(β L n nx sz:Nat)(es src:List (List PV)):eE te β L n src nx (some (.row true sz es))=if L=es.length/\n=0 then ki te (.row β L 0 n) src β nx nx else none:=rfl
def Kr(te:TI)(β L n:Nat)(H:qp)(nx:Nat)(d:Option my):Option (Nat×List (List PV))->Option my
 |none=>d
 |some (rz,src)=>if(rz=te.size\/src=[])/\0<te.size then eE te β L n src nx (H.get β)else none
theorem B8(te:TI)(β L n:Nat)(x:AV)(H:qp)(nx:Nat):hZ te (.row β L 0 n) x H nx=Kr te β L n H nx (mB te (.row β L 0 n) x H nx) (yN x H):=by unfold hZ Kr;cases yN x H with|none=>rfl|some p=>obtain⟨rz,src⟩:=p;simp only;split;(unfold eE;cases H.get β with|none=>rfl|some b=>cases b with|row qw sz es=>cases qw<;>simp|_=>rfl);rfl
theorem B7(te:TI)(sz:Nat)(es:List (List PV))(x:AV)(H:qp)(nx:Nat):hZ te (.pv (.sl true sz es)) x H nx=
  match yN x H with
  |none=>mB te (.pv (.sl true sz es)) x H nx
  |some (rz,src)=>if(rz=te.size\/src=[])/\0<te.size then ki te (.pv (.sl true sz es)) src nx nx (nx+1)else none:=rfl
theorem B9(te:TI)(x:AV)(H:qp)(nx:Nat):hZ te .iW x H nx=
  match yN x H with
  |none=>mB te .iW x H nx
  |some (rz,src)=>if(rz=te.size\/src=[])/\0<te.size then ki te .iW src nx nx (nx+1)else none:=rfl
theorem Mh(te:TI)(β k nx:Nat)(e:α->List PV)(l:List α)(c:List PV)(src:List (List PV))(hk:k=te.size)(hr:qi (l.length+(c::src).length) te.bytes=true):
  eE te β l.length l.length (c::src) nx (some (.row l.isEmpty (xd k l) (w? e l)))=
   some (.row β (w? e l++c::src).length 0 (w? e l++c::src).length,[(β,.row false k (w? e l++c::src))],nx):=by subst hk;cases l with|nil=>(have hr' :qi (src.length+1) te.bytes=true:=by simpa using hr);simp[eE,ki,hr']|cons a l=>(have hr' :qi (l.length+1+(src.length+1)) te.bytes=true:=by simpa using hr);simp[eE,xd,hr']
theorem Ov{γ:Type}(te:TI)(s:AV)(e' :γ->List PV)(xs:List γ)(b nx fj:Nat)(hs:xs.isEmpty=false)(hr:qi xs.length te.bytes=true):
  ki te s (w? e' xs) b nx fj=some (.row b xs.length 0 xs.length,[(b,.row false te.size (w? e' xs))],fj):=by cases xs with|nil=>simp at hs|cons c r=>(have hr' :qi (r.length+1) te.bytes=true:=by simpa using hr);simp[ki,hr']
theorem app_ne{γ:Type}{l s:List γ}(h:(l.isEmpty&&s.isEmpty)=false):(l++s).isEmpty=false:=by cases l<;>cases s<;>simp_all
theorem app_szc{γ:Type}{l s:List γ}(h:(l.isEmpty&&s.isEmpty)=false)(k:Nat):xd k (l++s)=k:=by cases l<;>cases s<;>simp_all [xd]
end
structure pz where
 es:List (Int×Int×Nat)
 zN:Nat
 deriving Inhabited
def XD(e:Int×Int×Nat):PV×PV×Nat:=(.int .i64 e.1,.int .i64 e.2.1,e.2.2)
def uk(k:Int):List (Int×Int×Nat)->Nat->Option (Nat×Int×Nat)
 |[],_=>none
 |(x,v,b)::r,i=>if k==x then some (i,v,b)else uk k r (i+1)
def Qv(m:pz)(k:Int):Bool:=(uk k m.es 0).isSome
def oY(m:pz)(k:Int):Int:=match uk k m.es 0 with|some (_,v,_)=>v|none=>0
def Z6(m:pz)(k v:Int):pz:=match uk k m.es 0 with|some (i,_,b)=>⟨m.es.set i (k,v,b),m.zN⟩|none=>⟨m.es++[(k,v,m.zN)],m.zN+1⟩
theorem Q8(k:Int): ∀(l:List (Int×Int×Nat))(i:Nat),findKey (.int .i64 k) (w? XD l) i=some ((uk k l i).map fun x=>(x.1,.int .i64 x.2.1,x.2.2))
 |[],i=>rfl
 |(x,v,b)::r,i=>by simp only[d?,XD,findKey,Nh,uk,if_true];cases h:(k==x)with|true=>simp|false=>simp only[Q8 k r (i+1)];simp
def Wy(te:TI)(k:PV)(ok:Bool):Option qJ->Option AV
 |some (.map es _)=>match findKey k es 0 with
  |some (some (_,v,_))=>some (if ok then .xW [.pv v,.pv (.bool true)]else .pv v)
  |some none=>some (if ok then .xW [.pv (X6 te),.pv (.bool false)]else .pv (X6 te))
  |none=>none
 |_=>none
def updB(β:Nat)(k v:PV):Option qJ->Option (List (Nat×qJ))
 |some (.map es zN)=>match findKey k es 0 with
  |some (some (i,_,born))=>some [(β,.map (es.set i (k,v,born)) zN)]
  |some none=>some [(β,.map (es++[(k,v,zN)]) (zN+1))]
  |none=>none
 |_=>none
def delB(β:Nat)(k:PV):Option qJ->Option (List (Nat×qJ))
 |some (.map es zN)=>match findKey k es 0 with
  |some (some (i,_,_))=>some [(β,.map (es.eraseIdx i) zN)]
  |some none=>some [(β,.map es zN)]
  |none=>none
 |_=>none
theorem Dk(tk te:TI)(β:Nat)(k:PV)(ok:Bool)(H:qp):aE tk te (.map β) (.pv k) ok H=if k8 tk.td k=true then Wy te k ok (H.get β)else none:=by unfold aE KI;simp only;split;(cases H.get β with|none=>rfl|some b=>cases b<;>rfl);rfl
theorem Dn(tk:TI)(β:Nat)(k v:PV)(H:qp):rE tk (.map β) (.pv k) v H=if k8 tk.td k=true then updB β k v (H.get β)else none:=by unfold rE;simp only;split;(cases H.get β with|none=>rfl|some b=>cases b<;>rfl);rfl
theorem IH(tk te:TI)(β:Nat)(k:PV)(H:qp):lh tk te (.map β) (.pv k) H=none:=rfl
theorem VF(β:Nat)(kd:IntKind)(born:Int)(v:PV)(H:qp):bP (.map β) (.pv (.int kd born)) v H=none:=rfl
theorem Dh(tk:TI)(β:Nat)(k:PV)(H:qp):cl tk (.map β) (.pv k) H=if k8 tk.td k=true then delB β k (H.get β)else none:=by unfold cl;simp only;split;(cases H.get β with|none=>rfl|some b=>cases b<;>rfl);rfl
section
variable (b:Bool) (β:Nat) (m:pz) (k:Int)
theorem mii_get:Wy ⟨1,8,.int .i64,[.int .i64 0],b,none⟩ (.int .i64 k) false (some (.map (w? XD m.es) m.zN))=some (.pv (.int .i64 (oY m k))):=by simp only[Wy,Q8,oY];cases uk k m.es 0<;>simp[X6,TI.isAgg]
theorem LO:Wy ⟨1,8,.int .i64,[.int .i64 0],b,none⟩ (.int .i64 k) true (some (.map (w? XD m.es) m.zN))=some (.xW [.pv (.int .i64 (oY m k)),.pv (.bool (Qv m k))]):=by simp only[Wy,Q8,oY,Qv];cases uk k m.es 0<;>simp[X6,TI.isAgg]
theorem mii_put(v:Int):updB β (.int .i64 k) (.int .i64 v) (some (.map (w? XD m.es) m.zN))=some [(β,.map (w? XD (Z6 m k v).es) (Z6 m k v).zN)]:=by simp only[updB,Q8,Z6];cases uk k m.es 0<;>simp[XD,t_]
end
theorem ZU(k:Int): ∀(l:List (Int×Int×Nat))(e:Int×Int×Nat)(i:Nat),uk k (l++[e]) i=match uk k l i with|some x=>some x|none=>if k==e.1 then some (i+l.length,e.2.1,e.2.2)else none
 |[],e,i=>by simp[uk]
 |(x,v,b)::r,e,i=>by simp only[q0p,uk];split;rfl;rw[ZU k r e (i+1)];simp only[b?];have:i+1+r.length=i+(r.length+1):=o?;rw[this]
theorem XP(k k' :Int)(v:Int): ∀(l:List (Int×Int×Nat))(i j:Nat)(w:Int)(b:Nat),uk k l i=some (i+j,w,b)->
  uk k' (l.set j (k,v,b)) i=if k' ==k then some (i+j,v,b)else uk k' l i
 |[],i,j,w,b,h=>by simp[uk]at h
 |(x,u,c)::r,i,j,w,b,h=>by simp only[uk]at h;split at h;rename_i hk;simp only[wd,Prod.mk.injEq]at h;obtain⟨h1,rfl,rfl⟩:=h;have:j=0:=o?;subst this;simp only[beq_iff_eq]at hk;subst hk;simp only[List.set_cons_zero,uk,Nat.add_zero];by_cases e:k' =k<;>simp[e];(rename_i hk;have hge: ∀(l:List (Int×Int×Nat))(n m:Nat)(w:Int)(b:Nat),uk k l n=some (m,w,b)->n<=m:=by intro l;induction l with|nil=>intro n m w b h;simp[uk]at h|cons y r ih=>intro n m w b h;simp only[uk]at h;split at h;cases h;exact ju _;have:=ih (n+1) m w b h;omega);(have:=hge r (i+1) (i+j) w b h;obtain⟨j',rfl⟩: ∃j',j=j' +1:=⟨j-1,o?⟩;have h' :uk k r (i+1)=some (i+1+j',w,b):=by rw[h];congr 2;omega);have ih:=XP k k' v r (i+1) j' w b h';simp only[List.set_cons_succ,uk,ih];by_cases e1:k' =x;(subst e1;have:(k==k')=false:=by simpa using hk);(have h2:(k' ==k)=false:=by simp at this |-; exact fun h=>this h.symm);simp[h2];(have:(k' ==x)=false:=by simpa using e1);simp only[this,wH,if_false];have:i+1+j' =i+(j' +1):=o?;rw[this]
theorem YO(m:pz)(k v k' :Int):uk k' (Z6 m k v).es 0=if k' ==k then some (((uk k (Z6 m k v).es 0).getD (0,0,0)).1,v,((uk k (Z6 m k v).es 0).getD (0,0,0)).2.2)else uk k' m.es 0:=by unfold Z6;cases h:uk k m.es 0 with|none=>simp only[ZU,h];by_cases e:k' =k;subst e;simp[h];(have:(k' ==k)=false:=by simpa using e);simp only[this,wH,if_false];cases uk k' m.es 0<;>rfl|some x=>(obtain⟨i,w,b⟩:=x;have h' :uk k m.es 0=some (0+i,w,b):=by simpa using h);simp only[XP k k' v m.es 0 i w b h',XP k k v m.es 0 i w b h'];by_cases e:k' =k<;>simp[e]
theorem Ny(m:pz)(k v k' :Int):oY (Z6 m k v) k' =if k' =k then v else oY m k' :=by unfold oY;rw[YO];by_cases e:k' =k<;>simp[e]
theorem Nz(m:pz)(k v k' :Int):Qv (Z6 m k v) k' =if k' =k then true else Qv m k' :=by unfold Qv;rw[YO];by_cases e:k' =k<;>simp[e]
theorem LN(k:Int):Qv ⟨[],0⟩ k=false:=rfl
theorem xk{α:Type}{l:List α}{n:Nat}(h:n<l.length):qh l (n:Int)=some l[n]:=by simp[qh,h]
theorem mcons{α β:Type}(f:α->β)(a:α)(l:List α):w? f (a::l)=f a::w? f l:=rfl
theorem mnil{α β:Type}(f:α->β):w? f ([]:List α)=[]:=rfl
theorem lnil{α:Type}:([]:List α).length=0:=rfl
theorem lcons{α:Type}(a:α)(l:List α):(a::l).length=l.length+1:=rfl
theorem lset{α:Type}(l:List α)(i:Nat)(x:α):(l.set i x).length=l.length:=List.length_set
def encx:=PLift.up (g? @mcons (g? @mnil (g? @lnil (g? @lcons (g? @CW (g? @ME (g? @MF (g? @CX (g? @Sc (g? @BM (g? @BO (g? @Sd (g? @lset (g? @u8_nat @D3))))))))))))))
theorem WX{α:Type}{P:Program}{t:TypeId}{e:α->List PV}{ok:α->Prop}{n:Nat}(h:zX P t e ok n):zX P t e (fun _=>True) n:=h.map (fun x=>x) (fun _ _=>⟨trivial,rfl⟩)
theorem rdNone{α:Type}{P:Program}{t:TypeId}{fs:Array Field}{e:α->List PV}{ok:α->Prop}(ht:P.underlying t=some (.struct fs)):zX P t e ok 0:=by intro H enc w base spare held fuel cs x hn hx;obtain⟨_,m,rfl,_⟩:=DataW.trod_struct ht hx;omega
def nR{α β:Type}(e1:α->List PV)(e2:β->List PV)(x:α×β):List PV:=e1 x.1++e2 x.2
def uV{α:Type}(_:α):Prop:=True
def dh(_:Unit):List PV:=[]
theorem JQ{P:Program}(n off:Nat):rB P [] dh uV n off:=by intro H enc w base spare held fuel cs a b d;obtain⟨x,m,_,h⟩:=rB.nil (P:=P) n off H enc w base spare held fuel cs a b d;exact⟨x,m,trivial,h⟩
def cp(n:Int):Prop:= -9223372036854775808<=n/\n<=9223372036854775807
def bp(s:qa):Prop:=s.length<=maxLen
def vG{α:Type}(ok:α->Prop)(s:Sl α):Prop:=(s.l.length<=maxLen/\(s.nil=true->s.l=[]))/\ ∀a∈s.l,ok a
def pairOk{α β:Type}(o1:α->Prop)(o2:β->Prop)(x:α×β):Prop:=o1 x.1/\o2 x.2
theorem jY{α β:Type}{P:Program}{f:Field}{fs:List Field}{e1:α->List PV}{ok1:α->Prop}{e2:β->List PV}{ok2:β->Prop}{n off c:Nat}(ho:f.offset=off)(hc:P.cellsOf f.type=c)
  (h1:zX P f.type e1 ok1 n) (h2:rB P fs e2 ok2 n (off+c)):rB P (f::fs) (nR e1 e2) (pairOk ok1 ok2) n off:=by intro H enc w base spare held fuel cs a b d;obtain⟨x,m,h0,h⟩:=rB.cons ho hc h1 h2 H enc w base spare held fuel cs a b d;exact⟨x,m,h0,h⟩
theorem dq{P:Program}{t:TypeId}(ht:P.underlying t=some (.int .i64))(hc:P.cellsOf t=1)(n:Nat):zX P t zY cp n:=
 (zX.int ht hc n).map (fun x=>x) (fun x hx=>⟨by
  simp[Lit.wf,IntKind.min,IntKind.max,s_,X_]at hx
  exact hx,rfl⟩)
theorem V0{α:Type}{P:Program}{t el:TypeId}{sz:Nat}{e:α->List PV}{ok:α->Prop}{n:Nat}(ht:P.underlying t=some (.slice el))(hc:P.cellsOf t=1)(ml:P.cellsOf el=sz)(tJ:0<sz)
  (h:zX P el e ok n):zX P t (bo sz e) (vG ok) n:=
 ((zX.slice ht hc ml tJ h).map (fun x=>(⟨x.1&&x.2.isEmpty,x.2⟩:Sl α)) (fun x hx=>⟨⟨⟨hx.1,z?⟩,hx.2⟩,by simp[bo,slP,Sb,CV]⟩)).mono (Nat.le_succ n)
theorem drop_cons{α:Type}{xs:List α}{i:Nat}{x:α}{r:List α}(h:xs.drop i=x::r):xs[i]? =some x/\xs.drop (i+1)=r/\i<xs.length:=by
 have h1:xs[i]? =some x:=by have:=congrArg (fun l=>l[0]?) h;simpa using this
 have h2:xs.drop (i+1)=r:=by have:=congrArg (fun l=>l.drop 1) h;simpa[List.drop_drop]using this
 exact⟨h1,h2,(qL h1).1⟩
theorem vV{α:Type}{xs:List α}{i:Nat}(h:xs.drop i=[]):xs.length<=i:=by simpa using h
theorem qB{n:Int}(h1: -9223372036854775808<=n)(h2:n<=9223372036854775807):q?.wrap n=n:=IntWalk.i64_in n ⟨h1,h2⟩
theorem px{n:Nat}(h:n<9223372036854775807):q?.wrap ((n:Int)+1)=((n+1:Nat):Int):=qB o? o?
theorem PM(b:Bool):g! (.pv (.bool b))=[(.pv (.bool b))]:=rfl
theorem Dw(k:IntKind)(n:Int):g! (.pv (.int k n))=[(.pv (.int k n))]:=rfl
theorem Dx(l:List UInt8):g! (.pv (.str l))=[(.pv (.str l))]:=rfl
theorem O6(a:Bool)(b:Nat)(c:List (List PV)):g! (.pv (.sl a b c))=[(.pv (.sl a b c))]:=rfl
theorem US:g! (.pv (.yj))=[(.pv (.yj))]:=rfl
theorem BC:g! (.pv (.fg))=[(.pv (.fg))]:=rfl
theorem UR:g! (.pv (.n9))=[(.pv (.n9))]:=rfl
theorem BD:g! (.pv (.eY))=[(.pv (.eY))]:=rfl
theorem O4(f:FuncId):g! (.pv (.fn f))=[(.pv (.fn f))]:=rfl
theorem O5(c:List PV):g! (.pv (.rp c))=[(.pv (.rp c))]:=rfl
theorem PN(c:List PV):g! (.pv (.agg c))=c.map .pv:=rfl
theorem PI(x y:Nat):g! (.ptr x y)=[(.ptr x y)]:=rfl
theorem Bz(x y z u:Nat):g! (.uS x y z u)=[(.uS x y z u)]:=rfl
theorem BA(c:List PV)(x:Nat):g! (.tQ c x)=[(.tQ c x)]:=rfl
theorem PJ(x y z u:Nat):g! (.row x y z u)=[(.row x y z u)]:=rfl
theorem PL:g! (.iW)=[(.iW)]:=rfl
theorem PH(x:Nat):g! (.map x)=[(.map x)]:=rfl
theorem PG(f:FuncId)(a b:List AV):g! (.Q3 f a b)=[(.Q3 f a b)]:=rfl
theorem PK(l:List AV):g! (.xW l)=[(.xW l)]:=rfl
theorem Dv(c:List AV):g! (.agg c)=c:=rfl
abbrev qj(n:Int):AV:= .pv (.int .i64 n)
abbrev zD(b:Bool):AV:= .pv (.bool b)
abbrev qS(s:qa):AV:= .pv (.str s)
abbrev lY(l:List PV):AV:= .pv (.agg l)
abbrev v_l{α:Type}(k:Nat)(e:α->List PV)(s:Sl α):AV:= .pv (.sl s.nil (xd k s.l) (w? e s.l))
abbrev qr{α:Type}(β:Nat)(l:List α):AV:= .row β l.length 0 l.length
abbrev b_x(l:List PV):qJ:= .box (w? .pv l)
abbrev b_r{α:Type}(k:Nat)(e:α->List PV)(l:List α):qJ:= .row l.isEmpty (xd k l) (w? e l)
abbrev b_m(m:pz):qJ:= .map (w? XD m.es) m.zN
theorem v_i_eq(n:Int):qj n= .pv (.int .i64 n):=rfl
theorem v_b_eq(b:Bool):zD b= .pv (.bool b):=rfl
theorem v_s_eq(s:qa):qS s= .pv (.str s):=rfl
theorem v_g_eq(l:List PV):lY l= .pv (.agg l):=rfl
theorem v_l_eq{α:Type}(k:Nat)(e:α->List PV)(s:Sl α):v_l k e s= .pv (.sl s.nil (xd k s.l) (w? e s.l)):=rfl
theorem v_r_eq{α:Type}(β:Nat)(l:List α):qr β l= .row β l.length 0 l.length:=rfl
theorem b_x_eq(l:List PV):b_x l= .box (w? .pv l):=rfl
theorem b_r_eq{α:Type}(k:Nat)(e:α->List PV)(l:List α):b_r k e l= .row l.isEmpty (xd k l) (w? e l):=rfl
theorem b_m_eq(m:pz):b_m m= .map (w? XD m.es) m.zN:=rfl
theorem O2(b:UInt8):J8 b=[.int .u8 b.toNat]:=rfl
theorem intE_eq(n:Int):zY n=[.int .i64 n]:=rfl
theorem strE_eq(s:qa):pR s=[.str s]:=rfl
theorem IZ(b:Bool):lp b=[.bool b]:=rfl
theorem kE_eq(k:IntKind)(n:Int):kE k n=[.int k n]:=rfl
theorem slE_eq{α:Type}(k:Nat)(e:α->List PV)(s:Sl α):bo k e s=[.sl s.nil (xd k s.l) (w? e s.l)]:=rfl
theorem IV{α:Type}(e:α->List PV)(s:α×α):IU e s=e s.1++e s.2:=rfl
def wordx:=PLift.up (g? @v_i_eq (g? @v_b_eq (g? @v_s_eq (g? @v_g_eq (g? @v_l_eq (g? @v_r_eq (g? @b_x_eq (g? @b_r_eq (g? @b_m_eq (g? @O2 (g? @intE_eq (g? @strE_eq (g? @IZ (g? @kE_eq (g? @slE_eq @IV)))))))))))))))
section
variable {α β:Type} {r:β} {P:Prop}
theorem bs{o:Option α}{k:α->Option β}(f: ∀x,o=some x->k x=some r->P)(h:o>>=k=some r):P:=by obtain⟨x,h1,h2⟩:=J!.1 h;exact f x h1 h2
theorem it{b:Bool}{p q:Option β}(f:b=true->p=some r->P)(g:b=false->q=some r->P)(h:(if b=true then p else q)=some r):P:=by cases b;exact g rfl h;exact f rfl h
theorem gd{Q:Prop}[Decidable Q]{p:Option β}(f:Q->p=some r->P)(h:(if Q then p else none)=some r):P:=by split at h;exact f ‹_› h;cases h
variable {l:List α} {i lo hi:Int}
theorem bw{k:α->Option β}(e:α->List PV)(f: ∀x,qh l i=some x->(∀ kd,vW (.pv (.int kd i))=some i.toNat)->(w? e l)[i.toNat]? =some (e x)->(i.toNat<l.length)=True->k x=some r->P)(h:qh l i>>=k=some r):P:=
 bs (fun x hx=>f x hx (lF hx) (lE e hx) (Q9 hx)) h
theorem bW{k:α->Option β}(e:α->List PV)(z:Nat)(f: ∀x,qh l i=some x->(∀ kd,vW (.pv (.int kd i))=some i.toNat)->(w? e l)[i.toNat]? =some (e x)->(i.toNat<l.length)=True->l.isEmpty=false->xd z l=z->k x=some r->P)(h:qh l i>>=k=some r):P:=
 bs (fun x hx=>f x hx (lF hx) (lE e hx) (Q9 hx) (Hc hx) (ZM hx z)) h
variable {k:List α->Option β}
theorem b2(e:α->List PV)(f: ∀x,kH l lo hi=some x->(∀ kd,vW (.pv (.int kd lo))=some lo.toNat)->(∀ kd,vW (.pv (.int kd hi))=some hi.toNat)->(lo.toNat<=hi.toNat)=True->(hi.toNat<=l.length)=True->((w? e l).take hi.toNat).drop lo.toNat=w? e x->(∀ z,xd (xd z l) x=xd z x)->k x=some r->P)(h:kH l lo hi>>=k=some r):P:=
 bs (fun x hx=>f x hx (CT hx) (CR hx) (CS hx) (MB hx) (Nu e hx) (MG hx)) h
variable {s:List α}
theorem rG(k:Nat)(e:α->List PV)(l:List α)(te:TI)(β nx:Nat)(c:List PV)(hk:k=te.size)(hr:qi (l.length+1) te.bytes=true):
  eE te β l.length l.length [c] nx (some (.row l.isEmpty (xd k l) (w? e l)))=some (.row β (w? e l++[c]).length 0 (w? e l++[c]).length,[(β,.row false k (w? e l++[c]))],nx):=Mh te β k nx e l c [] hk hr
theorem rN(e:α->List PV)(hs:s.isEmpty=false)(te:TI)(v:AV)(b nx fj:Nat)(hr:qi s.length te.bytes=true):ki te v (w? e s) b nx fj=some (.row b s.length 0 s.length,[(b,.row false te.size (w? e s))],fj):=Ov te v e s b nx fj hs hr
end
section
variable (m:pz) (k v:Int) (b:Bool) (β:Nat)
theorem mG:Wy ⟨1,8,.int .i64,[.int .i64 0],b,none⟩ (.int .i64 k) false (some (.map (w? XD m.es) m.zN))=some (.pv (.int .i64 (oY m k))):=mii_get b m k
theorem mG2:Wy ⟨1,8,.int .i64,[.int .i64 0],b,none⟩ (.int .i64 k) true (some (.map (w? XD m.es) m.zN))=some (.xW [.pv (.int .i64 (oY m k)),.pv (.bool (Qv m k))]):=LO b m k
theorem mP:updB β (.int .i64 k) (.int .i64 v) (some (.map (w? XD m.es) m.zN))=some [(β,.map (w? XD (Z6 m k v).es) (Z6 m k v).zN)]:=mii_put β m k v
end
theorem fF{G:GP}{f:FuncId}{S:mX}{nt:Nat}{ob:Option Code}{ra:Array ResultVar}(XG:G.fn f=some ⟨nt,ra.toList,ob.get!⟩){c:Code}{rs:List ResultVar}{H:qp}{args:List AV}{r:Option (AV×qp)}
  (hs:S.call f=none:=by rfl) (hc:ob=some c:=by rfl) (hr:ra=⟨rs⟩:=by rfl) (hk:uU 0 H=true:=by rfl)
  (h:Yy G f H.length rs (cont G (omega G S) f [.code c] (.normal,⟨rF 0 args,H,H.length⟩))=r:=by
   simp(maxSteps:=2000000) (disch:=first|assumption|rfl|exact Iu.mk (by kernel_rfl)) only[go_sem,↓reduceIte,Nat.reduceLeDiff,Nat.reduceEqDiff,Nat.reduceLT,Nat.reduceAdd,Nat.reduceSub,Nat.reduceMul,reduceCtorEq,Nat.reducePow, *]):
  (omega G S).call f args H=r:=SV hs XG hc hr hk h
theorem fL{G:GP}{f:FuncId}{S:mX}{fi:FI}(XG:G.fn f=some fi){id:Nat}{c:Code}{s:St}{r:Option (Ex×St)}
  (hc:zQ fi.body id=some c:=by rfl)
  (h:aj G (omega G S) f id s.nx (cont G (omega G S) f [.code c] (.normal,s))=r:=by
   simp(maxSteps:=2000000) (disch:=first|assumption|rfl|exact Iu.mk (by kernel_rfl)) only[go_sem,↓reduceIte,Nat.reduceLeDiff,Nat.reduceEqDiff,Nat.reduceLT,Nat.reduceAdd,Nat.reduceSub,Nat.reduceMul,reduceCtorEq,Nat.reducePow, *]):
  (omega G S).loop f id s=r:=SW XG hc h
def HY(H:qp):List Nat->List Nat
 |[]=>[]
 |β::r=>(so H β).refs++HY H r
theorem Uo(H:qp): ∀d:List Nat,(d.flatMap fun β=>(so H β).refs)=HY H d
 |[]=>rfl
 |β::r=>by rw[List.flatMap_cons,Uo H r];rfl
theorem AR(H:qp)(d roots:List Nat):sg H d roots=match roots,d with
 |[],[]=>some ([],[])
 |roots,d=>let L:=nT H 400 (roots++HY H d) d
  if Gf roots L&&pT H L L then some (L,pick H (pos L) 0 L)else none:=by cases roots<;>cases d<;>first|rfl|simp only[sg,Uo]
theorem aNil_p1(H:qp):dd .ptr (.pv .yj) H=some true:=rfl
theorem aNil_p2(H:qp)(β o:Nat):dd .ptr (.ptr β o) H=some false:=rfl
theorem aNil_p3(H:qp)(c:List PV)(o:Nat):dd .ptr (.tQ c o) H=some false:=rfl
theorem aNil_p4(H:qp)(β xm i o:Nat):dd .ptr (.uS β xm i o) H=some false:=rfl
theorem aNil_p5(H:qp)(c:List PV):dd .ptr (.pv (.rp c)) H=some false:=rfl
theorem aNil_s1(H:qp)(e:TypeId)(b:Bool)(sz:Nat)(es:List (List PV)):dd (.slice e) (.pv (.sl b sz es)) H=some b:=rfl
theorem aNil_s2(H:qp)(e:TypeId):dd (.slice e) .iW H=some false:=rfl
theorem aNil_s3(H:qp)(e:TypeId)(β xm off n:Nat):dd (.slice e) (.row β xm off n) H=match H.get β with|some (.row b _ es)=>if xm=es.length then some b else none|_=>none:=rfl
theorem aNil_m1(H:qp)(k e:TypeId):dd (.map k e) (.pv .n9) H=some true:=rfl
theorem aNil_m2(H:qp)(k e:TypeId)(β:Nat):dd (.map k e) (.map β) H=some false:=rfl
theorem aNil_f1(H:qp):dd .func (.pv .fg) H=some true:=rfl
theorem aNil_f2(H:qp)(f:FuncId):dd .func (.pv (.fn f)) H=some false:=rfl
theorem aNil_f3(H:qp)(f:FuncId)(a b:List AV):dd .func (.Q3 f a b) H=some false:=rfl
def oE{α:Type}(k:Nat)(e:α->List PV)(l:List (Sl α)):List PV:=l.map fun x=> .sl x.nil (xd k x.l) (w? e x.l)
def pA{α:Type}(ds:List Nat)(k:Nat)(e:α->List PV)(x:Sl (Sl α)):qJ:= .kj x.nil ds (oE k e x.l) none
section
variable {α:Type} (k:Nat) (e:α->List PV) (l:List (Sl α))
theorem oE_len:(oE k e l).length=l.length:=by simp[oE]
theorem oE_nil:oE k e []=[]:=rfl
theorem oE_get{i:Int}{x:Sl α}(h:qh l i=some x):(oE k e l)[i.toNat]? =some (.sl x.nil (xd k x.l) (w? e x.l)):=by simp[oE,oi h]
theorem oE_flat:(w? (bo k e) l).flatten=oE k e l:=by induction l with|nil=>rfl|cons x l ih=>simp[oE,bo]at ih |-; exact ih
end
theorem MC{α:Type}{l r:List α}{n:Int}(h:we l n=some r):r.length=n.toNat:=by unfold we at h;split at h;rename_i hc;cases h;rw[List.length_take];omega;cases h
theorem Ml{α:Type}{e:α->List PV}(he: ∀x,(e x).all PV.V4=true)(l:List α):cr (w? e l)=true:=by simp[cr];intro x _;simpa using he x
theorem szc_or2{α:Type}(k:Nat)(l:List α):(l.isEmpty=true\/xd k l=k)=True:=by cases l<;>simp[xd]
def mJ{α:Type}(d:α):List (Nat×α)->Nat->α
 |[],_=>d
 |(a,x)::r,k=>if a=k then x else mJ d r k
class zl {β:Type} (o:Option β) (Q:outParam (β->Prop)):Prop where
 ok: ∀r,o=some r->Q r
class FnC (G:GP) (f:FuncId) (fi:outParam FI):Prop where
 h:G.fn f=some fi
abbrev GY(x:Func):FI:=⟨x.ntmps,x.results.toList,x.body.get!⟩
theorem fnK{G:GP}{f:FuncId}{x:FI}(h:G.fn f=some x:=by kernel_rfl):FnC G f x:=⟨h⟩
abbrev Lp(a b:List Nat):py:=⟨a,b,[],[],[],0⟩
abbrev Lq(a b p:List Nat):py:=⟨a,b,p,[],[],0⟩
def jv:PV:= .int .i64 0
def sO:PV:= .str []
def mi:PV:= .bool false
def kY:PV:= .sl true 0 []
def tF:Option TI:=some ⟨1,8,.func,[.fg],false,none⟩
def tS(e:TypeId):Option TI:=some ⟨1,24,.slice e,[.sl true 0 []],false,none⟩
def tP(e:TypeId):Option TI:=some ⟨1,8,.ptr,[.yj],false,some e⟩
def tT(n b:Nat)(fs:List (Nat×Nat×TypeId))(z:List PV):Option TI:=some ⟨n,b,.struct fs,z,true,none⟩
class wM (α:Type) (k:outParam Nat) (e:outParam (α->List PV)):Prop where
 t:True
instance:wM UInt8 1 J8:=⟨trivial⟩
instance:wM Int 1 zY:=⟨trivial⟩
instance:wM Bool 1 lp:=⟨trivial⟩
instance:wM qa 1 pR:=⟨trivial⟩
instance{α:Type}{k:Nat}{e:α->List PV}[wM α k e]:wM (Sl α) 1 (bo k e):=⟨trivial⟩
instance{α:Type}{k:Nat}{e:α->List PV}[wM α k e]:wM (α×α) (k+k) (IU e):=⟨trivial⟩
section
variable {α β γ:Type} {r:β} {P:Prop} {a b:Bool} {p q:Option β}
theorem iA(f:a=true->(if b=true then p else q)=some r->P)(g:a=false->q=some r->P)(h:(if (a&&b)=true then p else q)=some r):P:=by cases a;exact g rfl (by simpa using h);exact f rfl (by simpa using h)
theorem iO(f:a=true->p=some r->P)(g:a=false->(if b=true then p else q)=some r->P)(h:(if (a || b)=true then p else q)=some r):P:=by cases a;exact g rfl (by simpa using h);exact f rfl (by simpa using h)
theorem bsS{o:Option (α⊕γ)}{k:α⊕γ->Option β}(f: ∀y,o=some (.inl y)->k (.inl y)=some r->P)(g: ∀y,o=some (.inr y)->k (.inr y)=some r->P)(h:o>>=k=some r):P:=by obtain⟨x,h1,h2⟩:=J!.1 h;cases x with|inl y=>exact f y h1 h2|inr y=>exact g y h1 h2
theorem bsS3{δ:Type}{o:Option (α⊕(γ⊕δ))}{k:α⊕(γ⊕δ)->Option β}(f: ∀y,o=some (.inl y)->k (.inl y)=some r->P)(g: ∀y,o=some (.inr (.inl y))->k (.inr (.inl y))=some r->P)(g' : ∀y,o=some (.inr (.inr y))->k (.inr (.inr y))=some r->P)(h:o>>=k=some r):P:=
 bsS f (fun y=>by cases y with|inl y=>exact g y|inr y=>exact g' y) h
variable {i lo hi:Int}
theorem bsS4{δ ε:Type}{o:Option (α⊕(γ⊕(δ⊕ε)))}{k:α⊕(γ⊕(δ⊕ε))->Option β}(f: ∀y,o=some (.inl y)->k (.inl y)=some r->P)(g: ∀y,o=some (.inr (.inl y))->k (.inr (.inl y))=some r->P)(g' : ∀y,o=some (.inr (.inr (.inl y)))->k (.inr (.inr (.inl y)))=some r->P)(g'' : ∀y,o=some (.inr (.inr (.inr y)))->k (.inr (.inr (.inr y)))=some r->P)(h:o>>=k=some r):P:=
 bsS3 f g (fun y=>by cases y with|inl y=>exact g' y|inr y=>exact g'' y) h
theorem wgO{l:List (Sl α)}{k:Sl α->Option β}{n:Nat}{e:α->List PV}[wM α n e](f: ∀x,qh l i=some x->(∀ kd,vW (.pv (.int kd i))=some i.toNat)->l[i.toNat]? =some x->(w? (bo n e) l)[i.toNat]? =some (bo n e x)->(oE n e l)[i.toNat]? =some (.sl x.nil (xd n x.l) (w? e x.l))->(i.toNat<l.length)=True->l.isEmpty=false->(∀ z,xd z l=z)->k x=some r->P)(h:qh l i>>=k=some r):P:=
 bs (fun x hx=>f x hx (lF hx) (oi hx) (lE _ hx) (oE_get n e l hx) (Q9 hx) (Hc hx) (ZM hx)) h
theorem wgV{l:Sl α}{k:α->Option β}{n:Nat}{e:α->List PV}[wM α n e](f: ∀x,qh l.l i=some x->(∀ kd,vW (.pv (.int kd i))=some i.toNat)->(w? e l.l)[i.toNat]? =some (e x)->(∀ z,(xd z l.l=z)=True)->(i.toNat<l.l.length)=True->k x=some r->P)(h:qh l.l i>>=k=some r):P:=
 bs (fun x hx=>f x hx (lF hx) (lE e hx) (F2 hx) (Q9 hx)) h
variable {l:List α}
theorem wg{k:α->Option β}{n:Nat}{e:α->List PV}[wM α n e](f: ∀x,qh l i=some x->(∀ kd,vW (.pv (.int kd i))=some i.toNat)->l[i.toNat]? =some x->(w? e l)[i.toNat]? =some (e x)->(i.toNat<l.length)=True->l.isEmpty=false->(∀ z,xd z l=z)->k x=some r->P)(h:qh l i>>=k=some r):P:=
 bs (fun x hx=>f x hx (lF hx) (oi hx) (lE e hx) (Q9 hx) (Hc hx) (ZM hx)) h
variable {k:List α->Option β}
theorem w2{n:Nat}{e:α->List PV}[wM α n e](f: ∀x,kH l lo hi=some x->(∀ kd,vW (.pv (.int kd lo))=some lo.toNat)->(∀ kd,vW (.pv (.int kd hi))=some hi.toNat)->(lo.toNat<=hi.toNat)=True->(hi.toNat<=l.length)=True->(l.take hi.toNat).drop lo.toNat=x->((w? e l).take hi.toNat).drop lo.toNat=w? e x->(∀ z,xd (xd z l) x=xd z x)->k x=some r->P)(h:kH l lo hi>>=k=some r):P:=
 bs (fun x hx=>f x hx (CT hx) (CR hx) (CS hx) (MB hx) (Xf hx) (Nu e hx) (MG hx)) h
theorem wF{n:Nat}{e:α->List PV}[wM α n e](f: ∀x,mj l lo=some x->(∀ kd,vW (.pv (.int kd lo))=some lo.toNat)->(lo.toNat<=l.length)=True->l.drop lo.toNat=x->(w? e l).drop lo.toNat=w? e x->(∀ z,xd (xd z l) x=xd z x)->k x=some r->P)(h:mj l lo>>=k=some r):P:=
 bs (fun x hx=>f x hx (subF_lo hx) (subF_le hx) (Ge hx) (LA e hx) (szc_subF hx)) h
theorem wT{n:Nat}{e:α->List PV}[wM α n e](f: ∀x,we l hi=some x->(∀ kd,vW (.pv (.int kd hi))=some hi.toNat)->(hi.toNat<=l.length)=True->l.take hi.toNat=x->(w? e l).take hi.toNat=w? e x->(∀ z,xd (xd z l) x=xd z x)->x.length=hi.toNat->k x=some r->P)(h:we l hi>>=k=some r):P:=
 bs (fun x hx=>f x hx (subT_hi hx) (subT_len hx) (Gg hx) (LB e hx) (szc_subT hx) (MC hx)) h
end
abbrev xL{α β:Type}(f:α->Option β)(Q:α->β->Prop):Prop:= ∀p,zl (f p) (Q p)
theorem gP{α β:Type}{f:α->Option β}{Q:α->β->Prop}{F:(α->Option β)->α->Option β}(pc: ∀m:α->β->Prop,(∀ g:α->Option β,(∀ x r,g x=some r->m x r)-> ∀x r,F g x=some r->m x r)-> ∀x r,f x=some r->m x r)
  (h: ∀g:α->Option β,xL g Q-> ∀p r,F g p=some r->Q p r):xL f Q:=fun p=>⟨pc Q (fun g i=>h g fun p=>⟨i p⟩) p⟩
class VV (α:Type) (f:outParam (α->AV)):Prop where
 t:True
instance:VV Int qj:=⟨trivial⟩
instance:VV Bool zD:=⟨trivial⟩
instance:VV qa qS:=⟨trivial⟩
instance{α:Type}{k:Nat}{e:α->List PV}[wM α k e]:VV (Sl α) (v_l k e):=⟨trivial⟩
def vv{α:Type}{f:α->AV}[VV α f](x:α):AV:=f x
theorem xJ{α:Type}{f:α->AV}[VV α f](x:α):vv x=f x:=rfl
def bb{α:Type}{k:Nat}{e:α->List PV}[wM α k e](x:α):qJ:=b_x (e x)
theorem xE{α:Type}{k:Nat}{e:α->List PV}[wM α k e](x:α):bb x=b_x (e x):=rfl
def br{α:Type}{k:Nat}{e:α->List PV}[wM α k e](l:List α):qJ:=b_r k e l
theorem xG{α:Type}{k:Nat}{e:α->List PV}[wM α k e](l:List α):br l=b_r k e l:=rfl
def bm{α:Type}{k:Nat}{e:α->List PV}[wM α k e](l:List α):qJ:= .row false k (w? e l)
theorem xF{α:Type}{k:Nat}{e:α->List PV}[wM α k e](l:List α):bm l= .row false k (w? e l):=rfl
def nz{α:Type}(b:Bool)(k:Nat)(l:List α):Nat:=match b with|true=>xd k l|false=>k
theorem nz_t{α:Type}(k:Nat)(l:List α):nz true k l=xd k l:=rfl
theorem nz_f{α:Type}(k:Nat)(l:List α):nz false k l=k:=rfl
theorem nz_or{α β:Type}(b:Bool)(k:Nat)(e:α->β)(l:List α):(nz b k l=k\/w? e l=[])=True:=by cases b<;>cases l<;>simp[nz,xd]
def bN{α:Type}{k:Nat}{e:α->List PV}[wM α k e](x:Sl α):qJ:= .row x.nil (nz x.nil k x.l) (w? e x.l)
theorem bN_eq{α:Type}{k:Nat}{e:α->List PV}[wM α k e](x:Sl α):bN x= .row x.nil (nz x.nil k x.l) (w? e x.l):=rfl
theorem LW(k:IntKind){n:Int}(h:0<=n):vW (.pv (.int k n))=some n.toNat:=LX k h
section
variable {α β:Type} (e:α->β) (l r:List α) (k:Nat)
theorem RI{l r:List α}(h:(l.isEmpty&&r.isEmpty)=false)(k:Nat):xd k (l++r)=k:=app_szc h k
theorem Dt:mZ []=some []:=rfl
theorem Du(n:Int)(r:List (List PV)):mZ ([.int .u8 n]::r)=(mZ r).map fun l=>u8 n::l:=by rw[mZ];cases mZ r<;>rfl
theorem scal_int(l:List Int):cr (w? zY l)=true:=Ml (fun _=>rfl) l
theorem scal_rep(n:Nat)(k:IntKind)(z:Int):cr (e? n [m? k z])=true:=by unfold cr;rw[V!];intro x hx;rw[(List.mem_replicate.1 hx).2];rfl
theorem map_oE{α:Type}(k:Nat)(e:α->List PV)(l:List (Sl α)):(oE k e l).map (fun p=>[p])=w? (bo k e) l:=by unfold oE bo;rw[List.map_map];rfl
structure Fit (l:List α) (n:Nat):Prop where
 h:l.length<=n
theorem take_ge{n:Nat}{l:List α}(h:Fit l n):l.take n=l:=List.take_of_length_le h.h
theorem szc_apC(a t:List α)(c:α)(k:Nat):xd k (a++c::t)=k:=by cases a<;>rfl
theorem szc_apL(a t b:List α)(c:α)(k:Nat):xd k (a++c::t++b)=k:=by cases a<;>rfl
theorem Az(l:List Int)(i:Nat)(k:IntKind)(z:Int):cr ((w? zY l).set i [m? k z])=true:=by unfold cr;rw[V!];intro x hx;rcases List.mem_or_eq_of_mem_set hx with hx|rfl;obtain⟨a,_,rfl⟩:=List.mem_map.1 hx;rfl;rfl
theorem szc_repI(k n:Nat)(kd:IntKind)(z:Int):xd k (e? n [m? kd z])=xd k (e? n z):=by cases n<;>rfl
theorem PF(l:qa)(i:Nat)(c:UInt8):mZ ((w? J8 l).set i [m? .u8 (c.toNat:Int)])=some (l.set i c):=by have:[m? .u8 (c.toNat:Int)]=J8 c:=rfl;rw[this,<- t_,lq]
theorem oE_one{α:Type}(k:Nat)(e:α->List PV)(x:Sl α):oE k e [x]=[l? x.nil (xd k x.l) (w? e x.l)]:=rfl
theorem oE_setR{α:Type}(k:Nat)(e:α->List PV)(l:List (Sl α))(n:Nat)(x:Sl α):oE k e (l.set n x)=(oE k e l).set n (l? x.nil (xd k x.l) (w? e x.l)):=by simp[oE,t_]
theorem szcN{α:Type}{l:List α}(h:l.isEmpty=false)(k:Nat):xd k l=k:=by cases l<;>simp_all [xd]
theorem oE_take{α:Type}(k:Nat)(e:α->List PV)(l:List (Sl α))(n:Nat):(oE k e l).take n=oE k e (l.take n):=by simp[oE]
theorem rG2{α:Type}(k:Nat)(e:α->List PV)(l:List α)(te:TI)(β nx:Nat)(c d:List PV)(hk:k=te.size)(hr:qi (l.length+2) te.bytes=true):
  eE te β l.length l.length [c,d] nx (some (.row l.isEmpty (xd k l) (w? e l)))=some (.row β (w? e l++[c,d]).length 0 (w? e l++[c,d]).length,[(β,.row false k (w? e l++[c,d]))],nx):=Mh te β k nx e l c [d] hk hr
theorem rZ(te:TI)(β nx:Nat)(src:List (List PV)):eE te β 0 0 src nx (some (.row true 0 []))=ki te (.row β 0 0 0) src β nx nx:=rfl
theorem fE0(te:TI)(v:AV)(b nx fj:Nat):ki te v [] b nx fj=some (v,[],nx):=rfl
theorem set_id{l:List α}{i:Nat}{x:α}(h:l[i]? =some x):l.set i x=l:=by apply List.ext_getElem?;intro j;rw[List.getElem?_set];split;rename_i h2;subst h2;split;exact h.symm;rename_i h3;rw[List.getElem?_eq_none o?]at h;cases h;rfl
theorem oS1{α:Type}{k i n:Nat}{e:α->List PV}{l:List (Sl α)}{m:List (List PV)}(h:(oE k e l)[i]? =some (l? false n m)):(oE k e l).set i (l? false n m)=oE k e l:=set_id h
theorem oE_end{α:Type}(k:Nat)(e:α->List PV)(l:List (Sl α))(c d:PV)(t:List PV):(oE k e l++c::t).set l.length d=oE k e l++d::t:=by
 have:l.length=(oE k e l).length:=by simp[oE]
 rw[this];simp
theorem oE_app{α:Type}(k:Nat)(e:α->List PV)(l r:List (Sl α)):oE k e (l++r)=oE k e l++oE k e r:=by simp[oE]
end
end Go.Gm
namespace Go.Proofs.YtnfdnckadgcifaaGreat
open Go Go.Gm
def ownL:List (Nat×Bool):=[(52,true),(53,true),(59,true),(81,true),(85,true),(86,true),(99,true),(125,true),(126,true),(140,true),(141,true),(173,true),(176,true),(177,true),(178,true),(179,true),(198,true),(201,true),(203,true),(204,true),(224,true),(225,true),(253,true),(268,true)]
def kpL:List (Nat×Bool):=[(23,true),(26,true),(49,true),(52,true),(80,true),(85,true),(88,true),(104,true),(144,true),(173,true),(201,true),(225,true),(268,true),(297,true)]
def prL:List (Nat×List (Nat×List Nat)):=[(30,[(15,[4])]),(371,[(7,[11])])]
def fzL:List (Nat×Bool):=[(415,true)]
def mfL:List (Nat×Bool):=[(173,true),(204,true)]
def cmL:List (Nat×List (Nat×List D7)):=[(3,[(70,[.Hb 11])]),(23,[(3,[.Hb 4])]),(24,[(27,[.cut 5000]),(43,[.cut 6000])]),(104,[(3,[.prom 4003 [1,1]]),(11,[.pack 4003]),(999999,[.Hb 2003])]),(105,[(7,[.cut 3000]),(9,[.cut 4000])]),(107,[(23,[.cut 3000]),(999999,[.cut 3000])]),(120,[(5,[.pack 4000])]),(121,[(0,[.Hb 0])]),(128,[(3,[.prom 4011 [1]]),(11,[.pack 4011]),(30,[.Hb 4011])]),(144,[(3,[.prom 3 [1]]),(11,[.pack 3])]),(148,[(48,[.focus 4000 [20]]),(49,[.pack 4000])]),(150,[(12,[.focus 4000 [1,2]]),(13,[.pack 4000]),(26,[.focus 4000 [1,2]]),(27,[.pack 4000]),(28,[.focus 4000 [1,2]]),(29,[.pack 4000]),(40,[.focus 4000 [1,2]]),(41,[.pack 4000])]),(182,[(2,[.focus 4000 [5000]]),(999999,[.pack 4000])]),(183,[(2,[.focus 4000 [2]]),(999999,[.pack 4000])]),(201,[(9,[.prom 19 [1]]),(52,[.focus 1 [21]]),(53,[.pack 1]),(65,[.pack 19]),(999999,[.Hb 14])]),(202,[(0,[.Hb 1])])]
def spL:List (Nat×List (Nat×py)):=[(3,[(0,Lp [1,2,3,4,9] [1,2,3,4,8]),(2,Lp [1,2,3,4,9,10] [1,2,3,4,8,9])]),(4,[(0,Lp [1,2,7] [6]),(2,Lp [1,2,7,8] [1,2,7])]),(6,[(0,Lp [3,6,42,43,44] [2]),(2,Lp [3,6,7,8,9,42,43,44,54,55,56] [2,3,8,42,43,44])]),(7,[(0,Lp [1,3,5] [1,2]),(2,Lp [1,6] [2]),(4,Lp [1,6,7,8] [1,2,6])]),(8,[(0,⟨[0,2,3,5],[2,3],[],[(3,4),(3,5)],[],2⟩)]),(10,[(0,Lp [0,1,5] [4])]),(11,[(0,Lp [1,2,7] [6])]),(14,[(0,Lp [0,1,14,15,16] [1,4,5])]),(15,[(0,Lp [0,1,12,13] [4])]),(16,[(0,⟨[2,5,18,19,20],[4],[],[],[18],0⟩)]),(18,[(0,Lq [0,5,10,11,12] [5] [5]),(2,Lq [0,5,10,11,12,17,18,19] [0,5,10,11,12] [5])]),(19,[(0,Lp [0,1,6] [1,4,5])]),(20,[(0,Lp [2,5] [4]),(2,Lp [2,5,6,8] [2,4,5])]),(21,[(0,Lp [1,2,5] [4])]),(22,[(0,Lq [0,1,5,6] [5] [5]),(2,Lq [0,1,5,6,7] [0,1,5,6] [5])]),(23,[(0,Lp [0,4,5] [2,3,4])]),(25,[(0,Lp [0,1,7,8,9] [0,1,4])]),(26,[(0,⟨[3,14,15,16],[3],[],[(3,2)],[],0⟩)]),(27,[(0,Lp [0,1] [])]),(28,[(0,⟨[0,14,15,16],[],[],[],[2000],0⟩)]),(29,[(0,Lp [0,3] [2]),(2,Lp [0,3,4] [0,2,3]),(4,Lp [0,3,4,44,45,46] [0,2,3,4])]),(30,[(0,Lp [0,2,11,12] []),(2,⟨[0,2,3,4,11,12,34,35,36],[0,3,4,11,12],[],[(4,1),(4,2)],[],0⟩)]),(31,[(0,Lq [0,2,3,9,10,11] [0,2,3] [3])]),(34,[(0,Lq [4,14,15,16] [4] [4])]),(35,[(0,Lp [1,2,5] [1,2,4])]),(41,[(0,⟨[0,3,4],[3],[],[],[3],0⟩),(2,Lp [0,3,4,5] [0,3,4,5]),(4,Lq [3,6,7] [6] [6])]),(42,[(0,Lp [0,1,2] [6])]),(44,[(0,Lp [0,1,8,9] [0,1,6,7,8])]),(46,[(0,Lp [3,10,11,12] [2])]),(47,[(0,Lq [3,6,7,8] [3] [3])]),(48,[(0,Lp [0,7,8,9] [0])]),(51,[(0,Lp [2,9,10,11] [4])]),(53,[(0,Lp [0,2,3] [])]),(54,[(0,Lp [2,3,11,12,13] [4,5]),(2,Lp [2,3,6,11,12,13,19,20,21] [2,3,4,5,11,12,13])]),(55,[(0,Lp [0,1,5,10,12,13,14] [0,1,5,10,12]),(2,Lp [0,1,5,10,12,91,92,93] [0,10])]),(56,[(0,⟨[1,3,12,13,14],[1,3],[],[],[1],0⟩),(2,Lq [1,3,6] [6] [6])]),(57,[(0,Lp [0,1,2,3,9,10,11,47,48,49] [0,1,2,3,9,10,11]),(2,Lp [0,1,2,3,15,16,17] [8])]),(58,[(0,Lq [1,2,3,7,8,9] [1,2,3] [3])]),(61,[(0,Lp [3,6,7,8] [2,3])]),(65,[(0,Lp [0,1,7,8] [4])]),(69,[(0,Lp [0,3] [2])]),(71,[(0,Lq [0,1,5,6] [5] [5])]),(72,[(0,Lq [0,1,2,7,8] [7] [7]),(2,Lq [14,15,16] [15] [15])]),(73,[(0,Lq [0,1,2,10,12,13] [0,12] [12])]),(74,[(0,Lp [0,4,5] [4])]),(75,[(0,Lq [1,2,3,6,8,10,11,12] [3,6,7,10,11] [10,11]),(2,⟨[6,10,11,24,25,26,27],[6,24,25],[],[(25,1)],[],0⟩),(4,⟨[6,10,11,24,25,26,27,28,29,30],[6,10,11,24,25,26,27,29],[],[(29,2)],[],0⟩)]),(79,[(0,Lq [1,2,4,6,7,8,9,10] [2,4,6,7,8,9] [8]),(2,Lq [1,2,4,6,7,8,9,10,11,12] [1,2,4,6,7,8,9,10] [8])]),(84,[(0,⟨[2,3,12,13,14],[2,3],[],[(3,2)],[],0⟩),(2,Lp [2,3,6,12,13,14,23,24] [2,3,6,12,13,14])]),(88,[(0,Lp [7,8] [7])]),(89,[(0,⟨[5,6,12,13,14,34,35,36],[12,14],[],[(14,1),(14,2)],[],0⟩)]),(90,[(0,⟨[1,5,8,9,10],[5],[5],[],[1],0⟩)]),(93,[(0,Lp [1,2,5,12,13,14] [5]),(2,Lp [1,2,5,7,8,12,13,14] [1,2,5,12,13,14])]),(94,[(0,Lp [0,1,7,8] [4])]),(96,[(0,Lp [1,2,3,7,8,9,10] [7,8,9])]),(97,[(0,Lq [1,3,10,12,13,40,41,42] [1,6,7,8,10,12,13] [12]),(2,Lq [1,3,10,12,13,15,16,40,41,42,52,53,54] [1,3,10,12,13,15,16,40,41,42] [16]),(4,Lq [1,3,10,12,15,16,40,41,42,74,75,76] [1,3,10,12,15,40,41,42] [12])]),(98,[(0,Lq [1,2,3,10,11,12] [1,2,3] [3]),(2,Lq [1,2,3,5,6,10,11,12,17,18,19] [1,2,3,5,6,10,11,12] [6])]),(99,[(0,Lp [0,1,2,6,7,8] [0,1,2,6,7]),(2,Lp [0,1,2,6] []),(4,Lp [0,1,2,6,7,8] [0,1,2,6,7])]),(104,[(0,Lp [1,3,4] [3])]),(105,[(0,Lp [0,1,4] [0,1,4]),(2,Lp [0,4,5,6] [])]),(106,[(0,Lp [0,3] [2]),(2,Lp [0,3,4] [0,2,3]),(4,Lp [0,3,4,5,6] [0,2,3,4])]),(107,[(0,Lp [0,2] []),(2,Lq [0,2,3,4,5] [0,2,3,4] [4])]),(108,[(1,Lp [0,1] [0,1]),(3,Lp [0,1] [1]),(5,Lp [0,1] [0,1]),(7,Lp [0,1] [1])]),(109,[(0,Lq [3,4,5] [4] [4])]),(111,[(0,⟨[0,1,2,8,9],[0,1,2,8,9],[8,9],[],[],2⟩)]),(112,[(0,Lp [0,3,4] [3])]),(114,[(0,Lp [0,1,6] [4,5])]),(115,[(0,Lp [0,2,9,10,16,17] [0,2,9,10,16,17]),(2,Lp [0,2,9,10,16,17] [0,2,9,10,16,17])]),(117,[(0,Lp [0,6,8] [0,6,8])]),(118,[(0,Lp [11,12,13] [11,12]),(2,Lp [15,17,19,20] [15,17,19])]),(119,[(0,Lp [0,3,4,5] [3,4]),(2,Lp [0,3,4,5,6] [0,3,4,5])]),(121,[(0,Lq [1,2,4,6,7,8,9,10] [1,2,4,6,7,9] [9])]),(122,[(0,Lp [0,6,7] [4,5])]),(124,[(0,Lp [0,6,7] [4,5])]),(125,[(0,Lp [0,1,2,6,7,8] [0,1,2,6,7]),(2,Lp [0,1,2,6] []),(4,Lp [0,1,2,6,7,8] [0,1,2,6,7])]),(126,[(0,Lp [0,1,2,6,7,8] [0,1,2,6,7]),(2,Lp [0,1,2,6] []),(4,Lp [0,1,2,6,7,8] [0,1,2,6,7])]),(128,[(0,⟨[1,2,4,5,10,11,19,20,21],[1,2,4,5,10,11],[],[(11,3)],[],0⟩),(2,Lp [10,11,71,72,73] [10,11])]),(129,[(0,⟨[0,2,3,4,6,10,12,13,14,32,33,34],[10,12,13],[13],[(12,2)],[],0⟩)]),(130,[(0,Lp [0,1,14,15,16] [0])]),(137,[(0,Lp [1,5,12,13,14] [5])]),(140,[(0,Lp [0,1,2,3,8] []),(2,Lp [0,1,2,3,8,9] [0,1,2,3,8])]),(141,[(0,Lp [0,1,4,10,11] [0,1,10]),(2,Lp [0,10,13] []),(4,Lp [0,2,4,14,15] [0,2,14]),(6,Lp [0,14,17] []),(8,Lp [0,1,2,3,4,18,19,20,21,22] [0,1,2,3,4,18,19,20])]),(142,[(0,Lp [0,1,5] [1,4])]),(143,[(0,Lp [0,1,5] [0])]),(144,[(0,Lq [1,3,4] [3] [3])]),(145,[(0,Lp [1,2,5] [4])]),(146,[(0,⟨[0,3,4],[3],[],[],[3],0⟩),(2,Lp [0,3,4,5] [0,3,4,5])]),(147,[(0,Lp [2,3,6] [4,5]),(2,Lp [2,3,6,7] [2,3,4,5,6])]),(148,[(0,Lp [0,1,2,3,5,10,12,13,14,15] [0,1,2,3,5,10,12,13,14]),(2,Lp [0,1,5,10,12,13,14,16,17] [0,1,5,10,12,13,14]),(4,Lp [0,1,5,10,12,13,14,20] [0,10])]),(149,[(0,⟨[1,3,4],[1,3],[],[],[1],0⟩),(2,Lq [1,3,5] [5] [5]),(4,Lp [1,3,5,6,7,8] [1,3,5,6,7]),(6,Lp [1,3,5,6,7,9] [1,3,5,6])]),(150,[(0,Lp [0,1,2,3,9,10,11] [0,1,2,3,9,10]),(2,Lp [0,1,2,3,9,12,13] [0,1,2,3,9,12]),(4,Lp [0,1,2,3,14,15] [8])]),(152,[(0,Lp [0,1] [1])]),(153,[(0,Lp [0,1] [0,1])]),(159,[(0,⟨[0,3,4],[3],[],[],[3],0⟩),(2,Lp [0,3,4,5] [0,3,4,5])]),(161,[(0,Lq [0,4,7,8] [0,4,7,8] [7]),(2,Lp [0,4,12,14] [0,4,5,6,12,14])]),(162,[(0,⟨[0,1,6,7],[0,1,6,7],[6,7],[],[],2⟩)]),(164,[(0,Lq [0,3,4] [3] [3])]),(165,[(0,Lp [0,3] [2])]),(166,[(0,Lp [0,3] [3])]),(167,[(0,Lp [0,1,5] [5])]),(168,[(0,Lp [0,2,3,4] [2,3])]),(169,[(0,⟨[0,1,2,6],[],[],[(0,3),(0,4),(0,5)],[],0⟩)]),(170,[(0,Lp [0,2,3] [0,2]),(2,Lp [0,2,4] [0]),(4,Lq [0,5,6] [] [5])]),(171,[(0,Lp [0,3] [2]),(2,Lp [0,3,4,5] [0,3,4])]),(172,[(0,⟨[0,1,3,10,11],[8,9,10],[],[(1,0),(1,1)],[],0⟩)]),(173,[(0,Lq [0,1,2,3,5,6,16] [2,6] [2])]),(174,[(0,Lp [0,1,5] [0,1,5])]),(176,[(0,Lp [0,1,2,3,8] []),(2,Lp [0,1,2,3,8,9] [0,1,2,3,8])]),(177,[(0,Lp [0,1,4,10,11] [0,1,10]),(2,Lp [0,10,13] []),(4,Lp [0,2,4,14,15] [0,2,14]),(6,Lp [0,14,17] []),(8,Lp [0,1,2,3,4,18,19,20,21,22] [0,1,2,3,4,18,19,20])]),(178,[(0,Lp [0,1,2,3,8] []),(2,Lp [0,1,2,3,8,9] [0,1,2,3,8])]),(179,[(0,Lp [0,1,4,10,11] [0,1,10]),(2,Lp [0,10,13] []),(4,Lp [0,2,4,14,15] [0,2,14]),(6,Lp [0,14,17] []),(8,Lp [0,1,2,3,4,18,19,20,21,22] [0,1,2,3,4,18,19,20])]),(182,[(0,Lp [0,2,3,5,8,9] [0,2,3,5,8]),(2,Lp [0,3,5,8,10,11] [0])]),(183,[(0,Lp [0,2,4,6,28,29,30] [0])]),(187,[(0,Lp [0,1,2,3,8,9] [])]),(190,[(0,Lp [0,5,6,7] [2])]),(191,[(0,Lq [11,12,13] [8,9,10,11,12] [12])]),(194,[(1,Lp [6,16,17,18] [6]),(3,Lp [6,31,32,33] [6])]),(196,[(0,Lq [1,2,3,11,12,13] [1,2,3] [3])]),(198,[(0,Lp [0,2,4,10,11] [0,2,4,10])]),(199,[(0,Lp [3,4] [2])]),(200,[(0,Lq [0,3,4] [3] [3])]),(201,[(0,⟨[1,6,7,11,14,17,18,19,20,21],[14,18,19],[19],[(18,1)],[],0⟩),(2,⟨[1,6,7,11,14,17,18,19,20,21,22,23,24,25,26],[1,6,7,11,14,17,18,19,20,21,22,23,24],[24],[(22,2)],[],0⟩)]),(202,[(0,Lq [0,1,5,6] [5] [5])]),(203,[(0,Lp [0,1,5] [4])]),(204,[(0,Lp [0,1,2,7] [6]),(2,Lp [0,1,2,7,8] [0,1,2,6,7])]),(205,[(0,Lp [1,2,3,7,8,9] [6,7,8])]),(206,[(0,Lp [1,3,9,10,14,15,16] [1,6,7,8,10,14,15])]),(210,[(0,Lq [0,3,4] [3] [3])]),(211,[(0,Lp [0,1,2,7,8] [0,6])]),(212,[(0,Lp [0,1,7,8] [0,1,7,8])]),(213,[(0,Lp [0,1,7] [0,1,7])]),(215,[(0,Lq [0,1,7] [0,1,7] [7])]),(216,[(0,Lp [2,3,5] [4])]),(219,[(0,Lq [0,1,2,7,8,9] [7] [7])]),(220,[(0,Lp [0,3,4] [2])]),(221,[(0,⟨[0,3,5,8,9,10],[0,3,5,8,9],[],[(9,17)],[],0⟩)]),(222,[(0,Lp [0,1,5] [0,1,4])]),(223,[(0,Lp [0,1,5] [4])]),(224,[(0,Lp [0,1,5] [4])]),(225,[(0,Lq [0,1,2,7] [2] [2])]),(227,[(0,Lp [0,2,4,10,11] [0,2,4,10])]),(228,[(0,Lp [0,2,4,10,11] [0,2,4,10])]),(231,[(0,Lp [0,1,2,6] []),(2,Lp [0,1,2,6,7] [0,1,2,6])]),(232,[(0,Lp [0,6,7,8,9] [0,6,7,8]),(2,Lp [0,6,7,10] [])]),(233,[(0,Lp [0,1,6,7,8,9] [])]),(235,[(0,Lp [0,6,7] [])]),(236,[(0,Lp [0,1,2,7,8] [6]),(2,Lp [0,1,2,7,8] [0,1,2,7,8]),(4,Lp [0,1,2,7,8,9] [0,1,2,7,8]),(6,Lp [0,1,2,7,8,10] [0,1,2,7,8])]),(238,[(0,Lp [0,1,9,10] [9]),(2,Lp [0,1,9,10] [0,1,9,10]),(4,Lp [0,1,9,10] [0,1,9,10])]),(239,[(0,Lp [0,1,10,11] [0,1,10,11]),(2,Lp [0,1,10,11] [0,1,10,11]),(4,Lp [0,1,10,11] [0,1,11]),(6,Lp [0,1,10,11] [0,1,10,11]),(8,Lp [0,1,10,11] [0,1,10,11])]),(242,[(0,Lp [1,2,31,32,33] [1,6,7])]),(245,[(0,Lp [0,1,4] [4,5])]),(251,[(0,Lp [0,1,5,6] [5])]),(253,[(0,Lp [0,1,2,3,10] [])]),(254,[(0,Lq [1,3,4] [3] [3]),(2,Lq [1,3,4,5,6] [1,3,4] [3])]),(255,[(0,Lp [0,1,5,7,8] [0,1,5,7]),(2,Lp [0,1,5,7,9,10] [9])]),(256,[(0,Lp [0,1,3,6,9,10,11] [0,1,3,6,9,10]),(2,Lp [0,1,3,6,9,10,12] [9])]),(257,[(0,Lp [1,3,7,8] [7])]),(259,[(0,Lp [0,1,7,8] [0])]),(261,[(0,Lq [4,11,12,13] [8,9,10,11,12] [12])]),(263,[(0,Lq [1,3,5,7,8] [3,7] [7])]),(264,[(0,Lq [0,3,4,5] [3] [3])]),(265,[(0,Lq [0,1,4,6] [4,5] [6]),(2,Lq [0,1,4,6,7] [0,1,4,5,6,7] [7])]),(266,[(1,Lp [0,4,8,10,11] [4,5,6])]),(269,[(0,Lp [2,3,5] [2,3,4]),(2,Lp [2,3,6] [4])]),(271,[(0,Lp [0,1,5] [4])]),(273,[(0,Lp [0,1,2,3,10] [])]),(274,[(0,Lp [0,1,2,3,10] [])]),(275,[(0,Lp [0,2,3,8] [])]),(284,[(0,Lq [0,3,4] [3] [3])]),(285,[(0,Lq [0,3,4] [3] [3])]),(286,[(0,⟨[1,4,5,22,23,24],[1,4,5],[],[(5,8)],[],0⟩)]),(287,[(0,Lp [7,8] [7])]),(289,[(0,Lp [0,1,6,7,8] [0,1,6,7])]),(296,[(0,Lp [0,3] [2])]),(298,[(0,Lp [0,2,4,6] [6,7])]),(299,[(0,Lp [0,1,5] [4])]),(301,[(0,Lp [0,1,5,6] [5])]),(308,[(0,Lq [0,1,2,9] [0,1,9] [9])]),(312,[(0,Lp [0,5,6,7] [2])]),(316,[(0,Lp [0,1] [1])]),(317,[(0,Lp [0,4,5] [])]),(318,[(1,Lp [0,2,3,29,30,31] [8])]),(321,[(0,Lp [1,3,4] [3])]),(322,[(0,Lp [1,3,4] [1,3])]),(323,[(0,Lp [1,3,4] [1,2,3]),(3,Lp [1,3,5] [1,2,3]),(5,Lp [1,3,6] [1,2,3])]),(324,[(0,Lq [0,3,4] [3] [3])]),(325,[(0,Lq [0,2,4,6,8,9] [0,2,4,6,8] [8])]),(326,[(1,Lp [6,7] [6]),(3,Lp [6,8] [6]),(5,Lp [1,9,10,11] [10])]),(329,[(0,Lq [0,1,5,6] [5] [5])]),(343,[(0,Lp [0,3] [2])]),(345,[(0,Lp [1,3,4] [3])]),(346,[(1,Lp [0,1,2,3,12,13,14] [0,2,3,12]),(3,Lp [0,1,2,3,15,16] [8,9,10])]),(349,[(0,Lq [0,3,4] [3] [3])]),(350,[(0,Lq [0,2,4,5] [2,3,4,5] [5])]),(352,[(0,Lp [0,4,5] [4,5])]),(353,[(0,Lp [0,1,7,8] [4])]),(358,[(0,Lp [3,8,9,10] [3])]),(365,[(0,⟨[0,3,4],[3],[],[],[3],0⟩),(2,Lp [0,3,4,5,6] [0,3,4,5,6]),(4,Lq [3,7,8] [7] [7])]),(366,[(0,Lp [3,4] [3])]),(369,[(0,Lp [1,7,8,9] [4])]),(370,[(0,Lp [3,8,9,10] [3])]),(371,[(0,Lp [0,1,2,11,12] [0,1,2,11])]),(376,[(0,Lp [0,1,5] [4])]),(377,[(0,Lp [3,4] [3])])]
noncomputable def G:GP:=gpOf Tryz.prog (fun f=>mJ {} (mJ [] spL f)) (mJ false ownL) (mJ false kpL) (fun f=>mJ [] (mJ [] prL f)) (mJ false fzL) (mJ false mfL) (fun f=>mJ [] (mJ [] cmL f))
theorem tbA:(∀ k,G.owned k=mJ false ownL k)/\(∀ k,G.sk k=mJ false kpL k)/\(∀ k i,G.pre k i=mJ [] (mJ [] prL k) i)/\(∀ k,G.Hb k=mJ false fzL k)/\(∀ k,G.Ep k=mJ false mfL k)/\(∀ k i,G.spec k i=mJ {} (mJ [] spL k) i)/\ ∀k i,G.cmd k i=mJ [] (mJ [] cmL k) i:=⟨fun _=>rfl,fun _=>rfl,fun _ _=>rfl,fun _=>rfl,fun _=>rfl,fun _ _=>rfl,fun _ _=>rfl⟩
theorem tiA0:G.ti 2=some ⟨1,8,.int .i64,[.int .i64 0],false,none⟩/\G.ti 3=some ⟨1,8,.int .i64,[.int .i64 0],false,none⟩/\G.ti 4=some ⟨1,1,.bool,[.bool false],false,none⟩/\G.ti 5=some ⟨1,1,.int .u8,[.int .u8 0],false,none⟩/\G.ti 9=some ⟨1,16,.string,[.str []],false,none⟩/\G.ti 22=tS 41/\G.ti 23=tS 31/\G.ti 24=tT 3 64 [(0,1,9),(1,1,22),(2,1,23)] [sO,kY,kY]/\G.ti 25=tT 3 64 [(0,1,9),(1,1,22),(2,1,23)] [sO,kY,kY]/\G.ti 26=tS 46/\G.ti 29=tS 36/\G.ti 30=tT 2 32 [(0,1,3),(1,1,29)] [jv,kY]/\G.ti 31=tT 2 32 [(0,1,3),(1,1,29)] [jv,kY]/\G.ti 32=tT 2 16 [(0,1,3),(1,1,3)] [jv,jv]/\G.ti 33=tT 2 16 [(0,1,3),(1,1,3)] [jv,jv]/\G.ti 34=tS 87/\G.ti 35=tT 3 40 [(0,2,33),(2,1,34)] [jv,jv,kY]/\G.ti 36=tT 3 40 [(0,2,33),(2,1,34)] [jv,jv,kY]/\G.ti 40=tT 2 16 [(0,1,3),(1,1,3)] [jv,jv]/\G.ti 41=tT 2 16 [(0,1,3),(1,1,3)] [jv,jv]/\G.ti 44=tS 49/\G.ti 45=tT 7 104 [(0,1,3),(1,1,9),(2,1,9),(3,1,3),(4,1,4),(5,1,44),(6,1,22)] [jv,sO,sO,jv,mi,kY,kY]/\G.ti 46=tT 7 104 [(0,1,3),(1,1,9),(2,1,9),(3,1,3),(4,1,4),(5,1,44),(6,1,22)] [jv,sO,sO,jv,mi,kY,kY]/\G.ti 48=tT 3 32 [(0,2,33),(2,1,9)] [jv,jv,sO]/\G.ti 49=tT 3 32 [(0,2,33),(2,1,9)] [jv,jv,sO]/\G.ti 50=some ⟨1,8,.int .i64,[.int .i64 0],false,none⟩/\G.ti 57=tS 33/\G.ti 63=tP 70/\G.ti 67=tS 100/\G.ti 68=tS 25/\G.ti 69=tT 6 136 [(0,3,25),(3,1,67),(4,1,68),(5,1,68)] [sO,kY,kY,kY,kY,kY]/\G.ti 70=tT 6 136 [(0,3,25),(3,1,67),(4,1,68),(5,1,68)] [sO,kY,kY,kY,kY,kY]/\G.ti 71=some ⟨1,8,.int .u64,[.int .u64 0],false,none⟩/\G.ti 72=tS 9/\G.ti 74=tP 108/\G.ti 79=tS 346/\G.ti 80=tS 82/\G.ti 81=tT 8 104 [(0,1,3),(1,1,9),(2,1,4),(3,1,79),(4,1,3),(5,1,3),(6,1,4),(7,1,80)] [jv,sO,mi,kY,jv,jv,mi,kY]/\G.ti 82=tT 8 104 [(0,1,3),(1,1,9),(2,1,4),(3,1,79),(4,1,3),(5,1,3),(6,1,4),(7,1,80)] [jv,sO,mi,kY,jv,jv,mi,kY]/\G.ti 83=tS 221:=by repeat' (first|apply g?|kernel_rfl)
theorem tiA1:G.ti 84=tT 11 136 [(0,8,82),(8,1,83),(9,1,4),(10,1,4)] [jv,sO,mi,kY,jv,jv,mi,kY,kY,mi,mi]/\G.ti 85=tT 11 136 [(0,8,82),(8,1,83),(9,1,4),(10,1,4)] [jv,sO,mi,kY,jv,jv,mi,kY,kY,mi,mi]/\G.ti 86=tT 18 200 [(0,2,33),(2,1,3),(3,1,3),(4,1,4),(5,1,4),(6,11,85),(17,1,72)] [jv,jv,jv,jv,mi,mi,jv,sO,mi,kY,jv,jv,mi,kY,kY,mi,mi,kY]/\G.ti 87=tT 18 200 [(0,2,33),(2,1,3),(3,1,3),(4,1,4),(5,1,4),(6,11,85),(17,1,72)] [jv,jv,jv,jv,mi,mi,jv,sO,mi,kY,jv,jv,mi,kY,kY,mi,mi,kY]/\G.ti 91=some ⟨1,8,.map 3 3,[.n9],false,none⟩/\G.ti 95=tF/\G.ti 99=tT 2 32 [(0,1,9),(1,1,9)] [sO,sO]/\G.ti 100=tT 2 32 [(0,1,9),(1,1,9)] [sO,sO]/\G.ti 106=tS 113/\G.ti 107=tT 3 64 [(0,1,9),(1,1,22),(2,1,106)] [sO,kY,kY]/\G.ti 108=tT 3 64 [(0,1,9),(1,1,22),(2,1,106)] [sO,kY,kY]/\G.ti 111=tS 122/\G.ti 112=tT 3 56 [(0,2,31),(2,1,111)] [jv,kY,kY]/\G.ti 113=tT 3 56 [(0,2,31),(2,1,111)] [jv,kY,kY]/\G.ti 119=tS 3/\G.ti 122=tS 163/\G.ti 126=tF/\G.ti 135=tS 182/\G.ti 143=tF/\G.ti 148=tF/\G.ti 149=tS 151/\G.ti 151=some ⟨2,16,.array 2 3,[.int .i64 0,.int .i64 0],false,none⟩/\G.ti 155=tF/\G.ti 156=tF/\G.ti 160=tF/\G.ti 161=tS 4/\G.ti 162=tT 2 16 [(0,1,3),(1,1,4)] [jv,mi]/\G.ti 163=tT 2 16 [(0,1,3),(1,1,4)] [jv,mi]/\G.ti 171=tP 175/\G.ti 173=tS 204/\G.ti 174=tT 4 88 [(0,3,25),(3,1,173)] [sO,kY,kY,kY]/\G.ti 175=tT 4 88 [(0,3,25),(3,1,173)] [sO,kY,kY,kY]/\G.ti 178=tP 180/\G.ti 179=tT 3 64 [(0,1,9),(1,1,135),(2,1,119)] [sO,kY,kY]/\G.ti 180=tT 3 64 [(0,1,9),(1,1,135),(2,1,119)] [sO,kY,kY]/\G.ti 181=tT 18 224 [(0,1,3),(1,1,9),(2,1,3),(3,1,4),(4,1,4),(5,11,85),(16,1,72),(17,1,135)] [jv,sO,jv,mi,mi,jv,sO,mi,kY,jv,jv,mi,kY,kY,mi,mi,kY,kY]/\G.ti 182=tT 18 224 [(0,1,3),(1,1,9),(2,1,3),(3,1,4),(4,1,4),(5,11,85),(16,1,72),(17,1,135)] [jv,sO,jv,mi,mi,jv,sO,mi,kY,jv,jv,mi,kY,kY,mi,mi,kY,kY]/\G.ti 191=tS 34/\G.ti 204=tS 119/\G.ti 205=tT 6 72 [(0,3,49),(3,1,204),(4,1,3),(5,1,3)] [jv,jv,sO,kY,jv,jv]:=by repeat' (first|apply g?|kernel_rfl)
theorem tiA2:G.ti 206=tT 6 72 [(0,3,49),(3,1,204),(4,1,3),(5,1,3)] [jv,jv,sO,kY,jv,jv]/\G.ti 213=tS 218/\G.ti 216=tS 5/\G.ti 217=tT 3 40 [(0,2,33),(2,1,57)] [jv,jv,kY]/\G.ti 218=tT 3 40 [(0,2,33),(2,1,57)] [jv,jv,kY]/\G.ti 220=tT 5 56 [(0,1,3),(1,1,3),(2,1,3),(3,1,9),(4,1,9)] [jv,jv,jv,sO,sO]/\G.ti 221=tT 5 56 [(0,1,3),(1,1,3),(2,1,3),(3,1,9),(4,1,9)] [jv,jv,jv,sO,sO]/\G.ti 243=tT 4 32 [(0,1,3),(1,1,3),(2,1,3),(3,1,3)] [jv,jv,jv,jv]/\G.ti 244=tT 4 32 [(0,1,3),(1,1,3),(2,1,3),(3,1,3)] [jv,jv,jv,jv]/\G.ti 246=tP 249/\G.ti 247=tS 252/\G.ti 248=tT 6 128 [(0,1,67),(1,1,9),(2,1,9),(3,1,247),(4,1,119),(5,1,72)] [kY,sO,sO,kY,kY,kY]/\G.ti 249=tT 6 128 [(0,1,67),(1,1,9),(2,1,9),(3,1,247),(4,1,119),(5,1,72)] [kY,sO,sO,kY,kY,kY]/\G.ti 251=tT 20 216 [(0,1,3),(1,1,9),(2,1,3),(3,1,4),(4,1,4),(5,1,4),(6,11,85),(17,1,72),(18,1,3),(19,1,3)] [jv,sO,jv,mi,mi,mi,jv,sO,mi,kY,jv,jv,mi,kY,kY,mi,mi,kY,jv,jv]/\G.ti 252=tT 20 216 [(0,1,3),(1,1,9),(2,1,3),(3,1,4),(4,1,4),(5,1,4),(6,11,85),(17,1,72),(18,1,3),(19,1,3)] [jv,sO,jv,mi,mi,mi,jv,sO,mi,kY,jv,jv,mi,kY,kY,mi,mi,kY,jv,jv]/\G.ti 253=tP 255/\G.ti 254=tT 2 48 [(0,1,119),(1,1,72)] [kY,kY]/\G.ti 255=tT 2 48 [(0,1,119),(1,1,72)] [kY,kY]/\G.ti 265=some ⟨1,4,.int .u32,[.int .u32 0],false,none⟩/\G.ti 268=some ⟨1,8,.int .u64,[.int .u64 0],false,none⟩/\G.ti 273=tP 206/\G.ti 278=tF/\G.ti 283=tP 285/\G.ti 284=tT 2 32 [(0,1,283),(1,1,216)] [.yj,kY]/\G.ti 285=tT 2 32 [(0,1,283),(1,1,216)] [.yj,kY]/\G.ti 286=some ⟨1,16,.other,[.eY],false,none⟩/\G.ti 287=some ⟨1,16,.other,[.eY],false,none⟩/\G.ti 319=some ⟨1,8,.int .i64,[.int .i64 0],false,none⟩/\G.ti 329=tP 335/\G.ti 331=tS 333/\G.ti 332=tT 11 144 [(0,8,82),(8,1,331),(9,1,3),(10,1,3)] [jv,sO,mi,kY,jv,jv,mi,kY,kY,jv,jv]/\G.ti 333=tT 11 144 [(0,8,82),(8,1,331),(9,1,3),(10,1,3)] [jv,sO,mi,kY,jv,jv,mi,kY,kY,jv,jv]/\G.ti 334=tT 17 240 [(0,11,333),(11,1,4),(12,1,72),(13,1,119),(14,1,57),(15,1,3),(16,1,4)] [jv,sO,mi,kY,jv,jv,mi,kY,kY,jv,jv,mi,kY,kY,kY,jv,mi]/\G.ti 335=tT 17 240 [(0,11,333),(11,1,4),(12,1,72),(13,1,119),(14,1,57),(15,1,3),(16,1,4)] [jv,sO,mi,kY,jv,jv,mi,kY,kY,jv,jv,mi,kY,kY,kY,jv,mi]/\G.ti 340=tF/\G.ti 343=tP 5/\G.ti 345=tT 2 32 [(0,1,9),(1,1,9)] [sO,sO]/\G.ti 346=tT 2 32 [(0,1,9),(1,1,9)] [sO,sO]/\G.ti 347=tS 384/\G.ti 354=tS 357:=by repeat' (first|apply g?|kernel_rfl)
theorem tiA3:G.ti 357=tT 3 40 [(0,2,33),(2,1,57)] [jv,jv,kY]/\G.ti 361=tP 364/\G.ti 363=tT 2 32 [(0,1,72),(1,1,3)] [kY,jv]/\G.ti 364=tT 2 32 [(0,1,72),(1,1,3)] [kY,jv]/\G.ti 371=some ⟨1,8,.int .u64,[.int .u64 0],false,none⟩/\G.ti 375=tP 3/\G.ti 383=tT 3 24 [(0,2,33),(2,1,3)] [jv,jv,jv]/\G.ti 384=tT 3 24 [(0,2,33),(2,1,3)] [jv,jv,jv]/\G.ti 386=tP 389/\G.ti 388=tT 5 72 [(0,1,72),(1,1,119),(2,1,4),(3,1,3),(4,1,4)] [kY,kY,mi,jv,mi]/\G.ti 389=tT 5 72 [(0,1,72),(1,1,119),(2,1,4),(3,1,3),(4,1,4)] [kY,kY,mi,jv,mi]/\G.ti 396=tP 371/\G.ti 413=tP 415/\G.ti 414=tT 13 144 [(0,1,3),(1,8,82),(9,1,3),(10,1,3),(11,1,3),(12,1,413)] [jv,jv,sO,mi,kY,jv,jv,mi,kY,jv,jv,jv,.yj]/\G.ti 415=tT 13 144 [(0,1,3),(1,8,82),(9,1,3),(10,1,3),(11,1,3),(12,1,413)] [jv,jv,sO,mi,kY,jv,jv,mi,kY,jv,jv,jv,.yj]:=by repeat' (first|apply g?|kernel_rfl)
instance fn59:FnC G 59 (GY Tryz.f59):=fnK
instance BV:FnC G 99 (GY Tryz.f99):=fnK
instance Yx:FnC G 140 (GY Tryz.f140):=fnK
instance pB:FnC G 141 (GY Tryz.f141):=fnK
instance fn158:FnC G 158 (GY Tryz.f158):=fnK
instance Wa:FnC G 173 (GY Tryz.f173):=fnK
instance Sg:FnC G 198 (GY Tryz.f198):=fnK
instance Oo:FnC G 253 (GY Tryz.f253):=fnK
end Go.Proofs.YtnfdnckadgcifaaGreat
namespace Go.Proofs.YtnfdnckadgcifaaGreat
open Go Go.Gm Go.RowKit Go.Maps Go.Sort Go.Shelf
def YK:Go.Shelf.Ren:=⟨fun|7=>92|10=>133|n=>n,fun|23=>91|26=>3|27=>155|28=>156|33=>160|n=>n,fun n=>n⟩
theorem keysA:SlLaysZI.n7 Tryz.prog YK where
 mixed:=k?
 f7:=⟨Tryz.f92.name,k?,Tryz.func92.trans (congrArg some k?)⟩
 f10:=⟨Tryz.f133.name,k?,Tryz.func133.trans (congrArg some k?)⟩
 t0:=Tryz.underlying0
 a0:=Tryz.isAgg0
 z0:=Tryz.sizeOf0
 v0:=Tryz.zeroValue0
 t4:=Tryz.underlying4
 a4:=Tryz.isAgg4
 z4:=Tryz.sizeOf4
 v4:=Tryz.zeroValue4
 t23:=Tryz.underlying91
 a23:=Tryz.isAgg91
 z23:=Tryz.sizeOf91
 v23:=Tryz.zeroValue91
 t26:=Tryz.underlying3
 a26:=Tryz.isAgg3
 z26:=Tryz.sizeOf3
 v26:=Tryz.zeroValue3
 t27:=Tryz.underlying155
 a27:=Tryz.isAgg155
 z27:=Tryz.sizeOf155
 v27:=Tryz.zeroValue155
 t28:=Tryz.underlying156
 a28:=Tryz.isAgg156
 z28:=Tryz.sizeOf156
 v28:=Tryz.zeroValue156
 t33:=Tryz.underlying160
 a33:=Tryz.isAgg160
 z33:=Tryz.sizeOf160
 v33:=Tryz.zeroValue160
def JC:Go.Shelf.Ren:=⟨fun|6=>91|8=>131|9=>132|11=>186|12=>187|13=>188|14=>231|15=>232|16=>233|17=>234|18=>235|19=>236|20=>237|21=>238|22=>239|23=>240|24=>241|25=>275|26=>276|27=>277|28=>278|29=>279|30=>100|31=>309|n=>n,fun|24=>119|26=>3|28=>156|33=>160|37=>71|39=>319|40=>320|45=>92|48=>265|50=>268|51=>371|55=>375|57=>396|58=>116|n=>n,fun n=>n⟩
theorem sortedA:SlLaysZI.n6 Tryz.prog JC where
 mixed:=k?
 f6:=⟨Tryz.f91.name,k?,Tryz.func91.trans (congrArg some k?)⟩
 f8:=⟨Tryz.f131.name,k?,Tryz.func131.trans (congrArg some k?)⟩
 f11:=⟨Tryz.f186.name,k?,Tryz.func186.trans (congrArg some k?)⟩
 t0:=Tryz.underlying0
 a0:=Tryz.isAgg0
 z0:=Tryz.sizeOf0
 v0:=Tryz.zeroValue0
 t24:=Tryz.underlying119
 a24:=Tryz.isAgg119
 z24:=Tryz.sizeOf119
 v24:=Tryz.zeroValue119
 t26:=Tryz.underlying3
 a26:=Tryz.isAgg3
 z26:=Tryz.sizeOf3
 v26:=Tryz.zeroValue3
 t28:=Tryz.underlying156
 a28:=Tryz.isAgg156
 z28:=Tryz.sizeOf156
 v28:=Tryz.zeroValue156
 i26:=k?
def AL:Go.Shelf.Ren:=⟨fun|5=>132|7=>187|8=>188|10=>231|11=>232|12=>233|13=>234|14=>235|15=>236|16=>237|17=>238|18=>239|19=>240|20=>241|30=>275|31=>276|32=>277|33=>278|34=>279|35=>100|40=>309|n=>n,fun|22=>119|23=>119|25=>3|32=>71|35=>319|36=>320|41=>92|44=>265|46=>268|53=>371|57=>375|63=>396|64=>116|n=>n,fun n=>n⟩
theorem sortA:SlLaysM.n5 Tryz.prog AL where
 mixed:=k?
 f5:=⟨Tryz.f132.name,k?,Tryz.func132.trans (congrArg some k?)⟩
 f7:=⟨Tryz.f187.name,k?,Tryz.func187.trans (congrArg some k?)⟩
 f8:=Tryz.func188.trans (congrArg some k?)
 f10:=⟨Tryz.f231.name,k?,Tryz.func231.trans (congrArg some k?)⟩
 f11:=⟨Tryz.f232.name,k?,Tryz.func232.trans (congrArg some k?)⟩
 f12:=⟨Tryz.f233.name,k?,Tryz.func233.trans (congrArg some k?)⟩
 f13:=⟨Tryz.f234.name,k?,Tryz.func234.trans (congrArg some k?)⟩
 f14:=⟨Tryz.f235.name,k?,Tryz.func235.trans (congrArg some k?)⟩
 f15:=⟨Tryz.f236.name,k?,Tryz.func236.trans (congrArg some k?)⟩
 f16:=⟨Tryz.f237.name,k?,Tryz.func237.trans (congrArg some k?)⟩
 f17:=⟨Tryz.f238.name,k?,Tryz.func238.trans (congrArg some k?)⟩
 f18:=⟨Tryz.f239.name,k?,Tryz.func239.trans (congrArg some k?)⟩
 f19:=Tryz.func240.trans (congrArg some k?)
 f20:=Tryz.func241.trans (congrArg some k?)
 f30:=⟨Tryz.f275.name,k?,Tryz.func275.trans (congrArg some k?)⟩
 f31:=Tryz.func276.trans (congrArg some k?)
 f32:=Tryz.func277.trans (congrArg some k?)
 f33:=⟨Tryz.f278.name,k?,Tryz.func278.trans (congrArg some k?)⟩
 f34:=⟨Tryz.f279.name,k?,Tryz.func279.trans (congrArg some k?)⟩
 f35:=⟨Tryz.f100.name,k?,Tryz.func100.trans (congrArg some k?)⟩
 f40:=⟨Tryz.f309.name,k?,Tryz.func309.trans (congrArg some k?)⟩
 t0:=Tryz.underlying0
 a0:=Tryz.isAgg0
 z0:=Tryz.sizeOf0
 v0:=Tryz.zeroValue0
 t3:=Tryz.underlying3
 a3:=Tryz.isAgg3
 z3:=Tryz.sizeOf3
 v3:=Tryz.zeroValue3
 t4:=Tryz.underlying4
 a4:=Tryz.isAgg4
 z4:=Tryz.sizeOf4
 v4:=Tryz.zeroValue4
 t5:=Tryz.underlying5
 a5:=Tryz.isAgg5
 z5:=Tryz.sizeOf5
 v5:=Tryz.zeroValue5
 t9:=Tryz.underlying9
 a9:=Tryz.isAgg9
 z9:=Tryz.sizeOf9
 v9:=Tryz.zeroValue9
 t22:=Tryz.underlying119
 a22:=Tryz.isAgg119
 z22:=Tryz.sizeOf119
 v22:=Tryz.zeroValue119
 t23:=Tryz.underlying119
 a23:=Tryz.isAgg119
 z23:=Tryz.sizeOf119
 v23:=Tryz.zeroValue119
 t25:=Tryz.underlying3
 a25:=Tryz.isAgg3
 z25:=Tryz.sizeOf3
 v25:=Tryz.zeroValue3
 t32:=Tryz.underlying71
 a32:=Tryz.isAgg71
 z32:=Tryz.sizeOf71
 v32:=Tryz.zeroValue71
 t35:=Tryz.underlying319
 a35:=Tryz.isAgg319
 z35:=Tryz.sizeOf319
 v35:=Tryz.zeroValue319
 t36:=Tryz.underlying320
 a36:=Tryz.isAgg320
 z36:=Tryz.sizeOf320
 v36:=Tryz.zeroValue320
 t41:=Tryz.underlying92
 a41:=Tryz.isAgg92
 z41:=Tryz.sizeOf92
 v41:=Tryz.zeroValue92
 t44:=Tryz.underlying265
 a44:=Tryz.isAgg265
 z44:=Tryz.sizeOf265
 v44:=Tryz.zeroValue265
 t46:=Tryz.underlying268
 a46:=Tryz.isAgg268
 z46:=Tryz.sizeOf268
 v46:=Tryz.zeroValue268
 t53:=Tryz.underlying371
 a53:=Tryz.isAgg371
 z53:=Tryz.sizeOf371
 v53:=Tryz.zeroValue371
 t57:=Tryz.underlying375
 a57:=Tryz.isAgg375
 z57:=Tryz.sizeOf375
 v57:=Tryz.zeroValue375
 t63:=Tryz.underlying396
 a63:=Tryz.isAgg396
 z63:=Tryz.sizeOf396
 v63:=Tryz.zeroValue396
 t64:=Tryz.underlying116
 a64:=Tryz.isAgg116
 z64:=Tryz.sizeOf116
 v64:=Tryz.zeroValue116
theorem sortsA(m:Nat):AnyZI.SortsIn Tryz.prog JC Fence.wide m:=
 ⟨fun ru off cap ss W hH oW ml=>callsIn_wide.2 (AnyM.slices_Sort_int sortA ru off cap ss W hH oW ml),fun p cap W=>callsIn_wide.2 (AnyM.slices_Sort_int_none sortA p cap W)⟩
theorem Mx(l b nn:Nat)(D0:DataW Unit)(w:World)(hl:l<w.heap.size)(hc:w.cell? ⟨l,0,none⟩=some (.map (some b)))(N8:w.ownsMap Tryz.prog 3 (fun _=>some (.nil,[])) b nn D0)(hmax:Maps.size D0<=maxLen)(hbytes:Maps.size D0*8<=140737488355328):
  Calls Tryz.prog 91 #[.func (.func 133) #[] #[.pointer (some ⟨l,0,none⟩)]] w fun e w' => ∃(v:Value)(ss:List Int),e= .returned v/\ss.Perm (intKeys D0)/\
   w'.ownsRow w.heap.size 3 1 v ss.length ((ss.mergeSort (fun x y=>decide (x<=y))).map encZ)/\(v= .slice none 0 0↔ss=[])/\Below w.heap.size w w' :=by
 have hseq:SeqGives Fence.wide 2 Tryz.prog 133 #[.pointer (some ⟨l,0,none⟩)] encZ (fun ss=>ss.Perm (intKeys D0)) (Maps.size D0) w:=
  AnyZI.keys_gives (ρ:=YK) { keysA with } Fence.wide _ trivial rfl o? l b nn D0 w hl hc N8
 have cS:=AnyZI.sorted_in sortedA Fence.wide 5 trivial trivial trivial trivial rfl o? (sortsA _) (enters_of Tryz.func132 k? rfl) 133 #[.pointer (some ⟨l,0,none⟩)] trivial (enters_of Tryz.func133 k? rfl) _ _ hmax hbytes _ hseq;exact(callsIn_wide (n:=5)).1 cS
def vq(args:List AV)(H:qp):Option (AV×qp):=Va 133 args H
theorem spS_ok{args:List AV}{H:qp}{r:AV}{H' :qp}(hg:vq args H=some (r,H')):enters Tryz.prog 91/\lf Tryz.prog 91 args H r H' :=by unfold vq at hg;exact My (kt:=3) Tryz.underlying3 ⟨_,Tryz.func91,k?,k?⟩ Mx hg
def KX:Go.Shelf.Ren:=⟨fun|240=>248|276=>290|n=>n,fun|37=>216|70=>283|72=>285|164=>380|n=>n,fun n=>n⟩
theorem O8:Lays.n240 Tryz.prog KX where
 mixed:=k?
 f240:=Tryz.func248.trans (congrArg some k?)
 f276:=Tryz.func290.trans (congrArg some k?)
 t0:=Tryz.underlying0
 a0:=Tryz.isAgg0
 z0:=Tryz.sizeOf0
 v0:=Tryz.zeroValue0
 t4:=Tryz.underlying4
 a4:=Tryz.isAgg4
 z4:=Tryz.sizeOf4
 v4:=Tryz.zeroValue4
 t9:=Tryz.underlying9
 a9:=Tryz.isAgg9
 z9:=Tryz.sizeOf9
 v9:=Tryz.zeroValue9
 t20:=Tryz.underlying20
 a20:=Tryz.isAgg20
 z20:=Tryz.sizeOf20
 v20:=Tryz.zeroValue20
 t70:=Tryz.underlying283
 a70:=Tryz.isAgg283
 z70:=Tryz.sizeOf283
 v70:=Tryz.zeroValue283
 t72:=Tryz.underlying285
 a72:=Tryz.isAgg285
 z72:=Tryz.sizeOf285
 v72:=Tryz.zeroValue285
 t164:=Tryz.underlying380
 a164:=Tryz.isAgg380
 z164:=Tryz.sizeOf380
 v164:=Tryz.zeroValue380
theorem O9:Builder.X72 Tryz.prog KX:=⟨k?,k?⟩
theorem spC_ok{args:List AV}{H:qp}{r:AV}{H' :qp}(hg:Kt 285 args H=some (r,H')):enters Tryz.prog 248/\lf Tryz.prog 248 args H r H' :=
 Rx ⟨_,Tryz.func248,k?,k?⟩ (fun b w h=>Any.Builder_copyCheck_used O8 O9 b w h) (fun b w h1 h2 h3=>Any.Builder_copyCheck_fresh O8 O9 b w h1 h2 h3) hg
def S:mX:=⟨fun f=>if f=91 then some vq else if f=248 then some (Kt 285)else none⟩
theorem S_ok:Q1 Tryz.prog S:=fun f g h args H r H' hg=>by simp only[S]at h;split at h;rename_i hf;subst hf;cases h;exact spS_ok hg;split at h;rename_i hf;subst hf;cases h;exact spC_ok hg;cases h
noncomputable abbrev O:xt:=omega G S
end Go.Proofs.YtnfdnckadgcifaaGreat
set_option maxRecDepth 100000
namespace Go.Proofs.YtnfdnckadgcifaaGreat
open Go Go.Gm
structure qm where
 anchor:Int
 head:Int
 deriving Inhabited,DecidableEq
def qm.enc(x:qm):List PV:=
 [m? q? x.anchor,m? q? x.head]
theorem qm.qG(x:qm):x.enc=[m? q? x.anchor,m? q? x.head]:=rfl
def qm.ok(x:qm):Prop:=cp x.anchor/\cp x.head/\True
structure qk where
 qO:Int
 to:Int
 deriving Inhabited,DecidableEq
def qk.enc(x:qk):List PV:=
 [m? q? x.qO,m? q? x.to]
theorem qk.qG(x:qk):x.enc=[m? q? x.qO,m? q? x.to]:=rfl
def qk.ok(x:qk):Prop:=cp x.qO/\cp x.to/\True
structure qW where
 qO:qa
 to:qa
 deriving Inhabited,DecidableEq
def qW.enc(x:qW):List PV:=
 [P? x.qO,P? x.to]
theorem qW.qG(x:qW):x.enc=[P? x.qO,P? x.to]:=rfl
def qW.ok(x:qW):Prop:=bp x.qO/\bp x.to/\True
structure qF where
 kind:Int
 char:qa
 not:Bool
 rows:(Sl qW)
 min:Int
 max:Int
 lazy:Bool
 qD:(Sl qF)
 deriving Inhabited
mutual
def qF.enc:qF->List PV
 |⟨x0,x1,x2,x3,x4,x5,x6,x7⟩=>[m? q? x0,P? x1,Z? x2,l? x3.nil (xd 2 x3.l) (w? qW.enc x3.l),m? q? x4,m? q? x5,Z? x6,qF.W2 x7]
def qF.W2:Sl qF->PV
 |⟨b,l⟩=> .sl b (xd 8 l) (qF.ZG l)
def qF.ZG:List qF->List (List PV)
 |[]=>[]
 |x::r=>x.enc::qF.ZG r
end
theorem qF.cA: ∀l:List qF,qF.ZG l=l.map qF.enc
 |[]=>rfl
 |x::r=>by simp[qF.ZG,qF.cA r]
theorem qF.ZH(s:Sl qF):qF.W2 s= .sl s.nil (xd 8 s.l) (s.l.map qF.enc):=by cases s;simp[qF.W2,qF.cA]
theorem qF.qG(x:qF):x.enc=[m? q? x.kind,P? x.char,Z? x.not,l? x.rows.nil (xd 2 x.rows.l) (w? qW.enc x.rows.l),m? q? x.min,m? q? x.max,Z? x.lazy,l? x.qD.nil (xd 8 x.qD.l) (w? qF.enc x.qD.l)]:=by cases x;simp[qF.enc,qF.ZH]
mutual
def qF.ok:qF->Prop
 |⟨x0,x1,x2,x3,x4,x5,x6,x7⟩=>cp x0/\bp x1/\uV x2/\(vG qW.ok) x3/\cp x4/\cp x5/\uV x6/\qF.okS x7/\True
def qF.okS:Sl qF->Prop
 |⟨b,l⟩=>(l.length<=maxLen/\(b=true->l=[]))/\qF.NH l
def qF.NH:List qF->Prop
 |[]=>True
 |x::r=>x.ok/\qF.NH r
end
theorem qF.aR: ∀l:List qF,qF.NH l↔ ∀a∈l,a.ok
 |[]=>by simp[qF.NH]
 |x::r=>by simp[qF.NH,qF.aR r]
theorem qF.X0(s:Sl qF):qF.okS s↔vG qF.ok s:=by cases s;simp[qF.okS,vG,qF.aR]
theorem qF.ok_eq(x:qF):x.ok↔(cp x.kind/\bp x.char/\uV x.not/\(vG qW.ok) x.rows/\cp x.min/\cp x.max/\uV x.lazy/\(vG qF.ok) x.qD/\True):=by cases x;simp only[qF.ok,qF.X0]
structure zw where
 kind:Int
 n:Int
 Yp:Int
 l8:qa
 Qr:qa
 deriving Inhabited,DecidableEq
def zw.enc(x:zw):List PV:=
 [m? q? x.kind,m? q? x.n,m? q? x.Yp,P? x.l8,P? x.Qr]
theorem zw.qG(x:zw):x.enc=[m? q? x.kind,m? q? x.n,m? q? x.Yp,P? x.l8,P? x.Qr]:=rfl
def zw.ok(x:zw):Prop:=cp x.kind/\cp x.n/\cp x.Yp/\bp x.l8/\bp x.Qr/\True
structure zo where
 rx:qF
 uT:(Sl zw)
 fold:Bool
 all:Bool
 deriving Inhabited
def zo.enc(x:zo):List PV:=
 [m? q? x.rx.kind,P? x.rx.char,Z? x.rx.not,l? x.rx.rows.nil (xd 2 x.rx.rows.l) (w? qW.enc x.rx.rows.l),m? q? x.rx.min,m? q? x.rx.max,Z? x.rx.lazy,l? x.rx.qD.nil (xd 8 x.rx.qD.l) (w? qF.enc x.rx.qD.l),l? x.uT.nil (xd 5 x.uT.l) (w? zw.enc x.uT.l),Z? x.fold,Z? x.all]
theorem zo.qG(x:zo):x.enc=[m? q? x.rx.kind,P? x.rx.char,Z? x.rx.not,l? x.rx.rows.nil (xd 2 x.rx.rows.l) (w? qW.enc x.rx.rows.l),m? q? x.rx.min,m? q? x.rx.max,Z? x.rx.lazy,l? x.rx.qD.nil (xd 8 x.rx.qD.l) (w? qF.enc x.rx.qD.l),l? x.uT.nil (xd 5 x.uT.l) (w? zw.enc x.uT.l),Z? x.fold,Z? x.all]:=rfl
def zo.ok(x:zo):Prop:=qF.ok x.rx/\(vG zw.ok) x.uT/\uV x.fold/\uV x.all/\True
structure qt where
 span:qk
 n:Int
 up:Int
 first:Bool
 qQ:Bool
 qU:zo
 opts:(Sl qa)
 deriving Inhabited
def qt.enc(x:qt):List PV:=
 [m? q? x.span.qO,m? q? x.span.to,m? q? x.n,m? q? x.up,Z? x.first,Z? x.qQ,m? q? x.qU.rx.kind,P? x.qU.rx.char,Z? x.qU.rx.not,l? x.qU.rx.rows.nil (xd 2 x.qU.rx.rows.l) (w? qW.enc x.qU.rx.rows.l),m? q? x.qU.rx.min,m? q? x.qU.rx.max,Z? x.qU.rx.lazy,l? x.qU.rx.qD.nil (xd 8 x.qU.rx.qD.l) (w? qF.enc x.qU.rx.qD.l),l? x.qU.uT.nil (xd 5 x.qU.uT.l) (w? zw.enc x.qU.uT.l),Z? x.qU.fold,Z? x.qU.all,l? x.opts.nil (xd 1 x.opts.l) (w? pR x.opts.l)]
theorem qt.qG(x:qt):x.enc=[m? q? x.span.qO,m? q? x.span.to,m? q? x.n,m? q? x.up,Z? x.first,Z? x.qQ,m? q? x.qU.rx.kind,P? x.qU.rx.char,Z? x.qU.rx.not,l? x.qU.rx.rows.nil (xd 2 x.qU.rx.rows.l) (w? qW.enc x.qU.rx.rows.l),m? q? x.qU.rx.min,m? q? x.qU.rx.max,Z? x.qU.rx.lazy,l? x.qU.rx.qD.nil (xd 8 x.qU.rx.qD.l) (w? qF.enc x.qU.rx.qD.l),l? x.qU.uT.nil (xd 5 x.qU.uT.l) (w? zw.enc x.qU.uT.l),Z? x.qU.fold,Z? x.qU.all,l? x.opts.nil (xd 1 x.opts.l) (w? pR x.opts.l)]:=rfl
def qt.ok(x:qt):Prop:=qk.ok x.span/\cp x.n/\cp x.up/\uV x.first/\uV x.qQ/\zo.ok x.qU/\(vG bp) x.opts/\True
structure qu where
 span:qk
 stops:(Sl qt)
 deriving Inhabited
def qu.enc(x:qu):List PV:=
 [m? q? x.span.qO,m? q? x.span.to,l? x.stops.nil (xd 18 x.stops.l) (w? qt.enc x.stops.l)]
theorem qu.qG(x:qu):x.enc=[m? q? x.span.qO,m? q? x.span.to,l? x.stops.nil (xd 18 x.stops.l) (w? qt.enc x.stops.l)]:=rfl
def qu.ok(x:qu):Prop:=qk.ok x.span/\(vG qt.ok) x.stops/\True
structure qc where
 cur:Int
 insts:(Sl qu)
 deriving Inhabited
def qc.enc(x:qc):List PV:=
 [m? q? x.cur,l? x.insts.nil (xd 3 x.insts.l) (w? qu.enc x.insts.l)]
theorem qc.qG(x:qc):x.enc=[m? q? x.cur,l? x.insts.nil (xd 3 x.insts.l) (w? qu.enc x.insts.l)]:=rfl
def qc.ok(x:qc):Prop:=cp x.cur/\(vG qu.ok) x.insts/\True
structure qq where
 text:qa
 zC:(Sl qm)
 qf:(Sl qc)
 deriving Inhabited
def qq.enc(x:qq):List PV:=
 [P? x.text,l? x.zC.nil (xd 2 x.zC.l) (w? qm.enc x.zC.l),l? x.qf.nil (xd 2 x.qf.l) (w? qc.enc x.qf.l)]
theorem qq.qG(x:qq):x.enc=[P? x.text,l? x.zC.nil (xd 2 x.zC.l) (w? qm.enc x.zC.l),l? x.qf.nil (xd 2 x.qf.l) (w? qc.enc x.qf.l)]:=rfl
def qq.ok(x:qq):Prop:=bp x.text/\(vG qm.ok) x.zC/\(vG qc.ok) x.qf/\True
structure qz where
 span:qk
 text:qa
 deriving Inhabited,DecidableEq
def qz.enc(x:qz):List PV:=
 [m? q? x.span.qO,m? q? x.span.to,P? x.text]
theorem qz.qG(x:qz):x.enc=[m? q? x.span.qO,m? q? x.span.to,P? x.text]:=rfl
def qz.ok(x:qz):Prop:=qk.ok x.span/\bp x.text/\True
structure yD where
 kind:Int
 name:qa
 text:qa
 n:Int
 extend:Bool
 edits:(Sl qz)
 zC:(Sl qm)
 deriving Inhabited,DecidableEq
def yD.enc(x:yD):List PV:=
 [m? q? x.kind,P? x.name,P? x.text,m? q? x.n,Z? x.extend,l? x.edits.nil (xd 3 x.edits.l) (w? qz.enc x.edits.l),l? x.zC.nil (xd 2 x.zC.l) (w? qm.enc x.zC.l)]
theorem yD.qG(x:yD):x.enc=[m? q? x.kind,P? x.name,P? x.text,m? q? x.n,Z? x.extend,l? x.edits.nil (xd 3 x.edits.l) (w? qz.enc x.edits.l),l? x.zC.nil (xd 2 x.zC.l) (w? qm.enc x.zC.l)]:=rfl
def yD.ok(x:yD):Prop:=cp x.kind/\bp x.name/\bp x.text/\cp x.n/\uV x.extend/\(vG qz.ok) x.edits/\(vG qm.ok) x.zC/\True
structure qx where
 name:qa
 value:qa
 deriving Inhabited,DecidableEq
def qx.enc(x:qx):List PV:=
 [P? x.name,P? x.value]
theorem qx.qG(x:qx):x.enc=[P? x.name,P? x.value]:=rfl
def qx.ok(x:qx):Prop:=bp x.name/\bp x.value/\True
structure zF where
 st:qq
 env:(Sl qx)
 behind:(Sl qq)
 ahead:(Sl qq)
 deriving Inhabited
def zF.enc(x:zF):List PV:=
 [P? x.st.text,l? x.st.zC.nil (xd 2 x.st.zC.l) (w? qm.enc x.st.zC.l),l? x.st.qf.nil (xd 2 x.st.qf.l) (w? qc.enc x.st.qf.l),l? x.env.nil (xd 2 x.env.l) (w? qx.enc x.env.l),l? x.behind.nil (xd 3 x.behind.l) (w? qq.enc x.behind.l),l? x.ahead.nil (xd 3 x.ahead.l) (w? qq.enc x.ahead.l)]
theorem zF.qG(x:zF):x.enc=[P? x.st.text,l? x.st.zC.nil (xd 2 x.st.zC.l) (w? qm.enc x.st.zC.l),l? x.st.qf.nil (xd 2 x.st.qf.l) (w? qc.enc x.st.qf.l),l? x.env.nil (xd 2 x.env.l) (w? qx.enc x.env.l),l? x.behind.nil (xd 3 x.behind.l) (w? qq.enc x.behind.l),l? x.ahead.nil (xd 3 x.ahead.l) (w? qq.enc x.ahead.l)]:=rfl
def zF.ok(x:zF):Prop:=qq.ok x.st/\(vG qx.ok) x.env/\(vG qq.ok) x.behind/\(vG qq.ok) x.ahead/\True
structure xD where
 id:Int
 held:Bool
 deriving Inhabited,DecidableEq
def xD.enc(x:xD):List PV:=
 [m? q? x.id,Z? x.held]
theorem xD.qG(x:xD):x.enc=[m? q? x.id,Z? x.held]:=rfl
def xD.ok(x:xD):Prop:=cp x.id/\uV x.held/\True
structure xC where
 dF:qc
 marks:(Sl (Sl xD))
 deriving Inhabited
def xC.enc(x:xC):List PV:=
 [m? q? x.dF.cur,l? x.dF.insts.nil (xd 3 x.dF.insts.l) (w? qu.enc x.dF.insts.l),l? x.marks.nil (xd 1 x.marks.l) (w? (bo 2 xD.enc) x.marks.l)]
theorem xC.qG(x:xC):x.enc=[m? q? x.dF.cur,l? x.dF.insts.nil (xd 3 x.dF.insts.l) (w? qu.enc x.dF.insts.l),l? x.marks.nil (xd 1 x.marks.l) (w? (bo 2 xD.enc) x.marks.l)]:=rfl
def xC.ok(x:xC):Prop:=qc.ok x.dF/\(vG (vG xD.ok)) x.marks/\True
structure jS where
 text:qa
 zC:(Sl qm)
 qf:(Sl xC)
 deriving Inhabited
def jS.enc(x:jS):List PV:=
 [P? x.text,l? x.zC.nil (xd 2 x.zC.l) (w? qm.enc x.zC.l),l? x.qf.nil (xd 3 x.qf.l) (w? xC.enc x.qf.l)]
theorem jS.qG(x:jS):x.enc=[P? x.text,l? x.zC.nil (xd 2 x.zC.l) (w? qm.enc x.zC.l),l? x.qf.nil (xd 3 x.qf.l) (w? xC.enc x.qf.l)]:=rfl
def jS.ok(x:jS):Prop:=bp x.text/\(vG qm.ok) x.zC/\(vG xC.ok) x.qf/\True
structure zV where
 st:qq
 fl:(Sl (Sl (Sl Int)))
 deriving Inhabited
def zV.enc(x:zV):List PV:=
 [P? x.st.text,l? x.st.zC.nil (xd 2 x.st.zC.l) (w? qm.enc x.st.zC.l),l? x.st.qf.nil (xd 2 x.st.qf.l) (w? qc.enc x.st.qf.l),l? x.fl.nil (xd 1 x.fl.l) (w? (bo 1 (bo 1 zY)) x.fl.l)]
theorem zV.qG(x:zV):x.enc=[P? x.st.text,l? x.st.zC.nil (xd 2 x.st.zC.l) (w? qm.enc x.st.zC.l),l? x.st.qf.nil (xd 2 x.st.qf.l) (w? qc.enc x.st.qf.l),l? x.fl.nil (xd 1 x.fl.l) (w? (bo 1 (bo 1 zY)) x.fl.l)]:=rfl
def zV.ok(x:zV):Prop:=qq.ok x.st/\(vG (vG (vG cp))) x.fl/\True
structure qA where
 kind:Int
 text:qa
 n:Int
 has:Bool
 qQ:Bool
 qU:zo
 opts:(Sl qa)
 qD:(Sl qA)
 deriving Inhabited
mutual
def qA.enc:qA->List PV
 |⟨x0,x1,x2,x3,x4,x5,x6,x7⟩=>[m? q? x0,P? x1,m? q? x2,Z? x3,Z? x4,m? q? x5.rx.kind,P? x5.rx.char,Z? x5.rx.not,l? x5.rx.rows.nil (xd 2 x5.rx.rows.l) (w? qW.enc x5.rx.rows.l),m? q? x5.rx.min,m? q? x5.rx.max,Z? x5.rx.lazy,l? x5.rx.qD.nil (xd 8 x5.rx.qD.l) (w? qF.enc x5.rx.qD.l),l? x5.uT.nil (xd 5 x5.uT.l) (w? zw.enc x5.uT.l),Z? x5.fold,Z? x5.all,l? x6.nil (xd 1 x6.l) (w? pR x6.l),qA.W2 x7]
def qA.W2:Sl qA->PV
 |⟨b,l⟩=> .sl b (xd 18 l) (qA.ZG l)
def qA.ZG:List qA->List (List PV)
 |[]=>[]
 |x::r=>x.enc::qA.ZG r
end
theorem qA.cA: ∀l:List qA,qA.ZG l=l.map qA.enc
 |[]=>rfl
 |x::r=>by simp[qA.ZG,qA.cA r]
theorem qA.ZH(s:Sl qA):qA.W2 s= .sl s.nil (xd 18 s.l) (s.l.map qA.enc):=by cases s;simp[qA.W2,qA.cA]
theorem qA.qG(x:qA):x.enc=[m? q? x.kind,P? x.text,m? q? x.n,Z? x.has,Z? x.qQ,m? q? x.qU.rx.kind,P? x.qU.rx.char,Z? x.qU.rx.not,l? x.qU.rx.rows.nil (xd 2 x.qU.rx.rows.l) (w? qW.enc x.qU.rx.rows.l),m? q? x.qU.rx.min,m? q? x.qU.rx.max,Z? x.qU.rx.lazy,l? x.qU.rx.qD.nil (xd 8 x.qU.rx.qD.l) (w? qF.enc x.qU.rx.qD.l),l? x.qU.uT.nil (xd 5 x.qU.uT.l) (w? zw.enc x.qU.uT.l),Z? x.qU.fold,Z? x.qU.all,l? x.opts.nil (xd 1 x.opts.l) (w? pR x.opts.l),l? x.qD.nil (xd 18 x.qD.l) (w? qA.enc x.qD.l)]:=by cases x;simp[qA.enc,qA.ZH]
mutual
def qA.ok:qA->Prop
 |⟨x0,x1,x2,x3,x4,x5,x6,x7⟩=>cp x0/\bp x1/\cp x2/\uV x3/\uV x4/\zo.ok x5/\(vG bp) x6/\qA.okS x7/\True
def qA.okS:Sl qA->Prop
 |⟨b,l⟩=>(l.length<=maxLen/\(b=true->l=[]))/\qA.NH l
def qA.NH:List qA->Prop
 |[]=>True
 |x::r=>x.ok/\qA.NH r
end
theorem qA.aR: ∀l:List qA,qA.NH l↔ ∀a∈l,a.ok
 |[]=>by simp[qA.NH]
 |x::r=>by simp[qA.NH,qA.aR r]
theorem qA.X0(s:Sl qA):qA.okS s↔vG qA.ok s:=by cases s;simp[qA.okS,vG,qA.aR]
theorem qA.ok_eq(x:qA):x.ok↔(cp x.kind/\bp x.text/\cp x.n/\uV x.has/\uV x.qQ/\zo.ok x.qU/\(vG bp) x.opts/\(vG qA.ok) x.qD/\True):=by cases x;simp only[qA.ok,qA.X0]
structure zO where
 s:qa
 what:(Sl qA)
 vU:(Sl Int)
 deriving Inhabited
def zO.enc(x:zO):List PV:=
 [P? x.s,l? x.what.nil (xd 18 x.what.l) (w? qA.enc x.what.l),l? x.vU.nil (xd 1 x.vU.l) (w? zY x.vU.l)]
theorem zO.qG(x:zO):x.enc=[P? x.s,l? x.what.nil (xd 18 x.what.l) (w? qA.enc x.what.l),l? x.vU.nil (xd 1 x.vU.l) (w? zY x.vU.l)]:=rfl
def zO.ok(x:zO):Prop:=bp x.s/\(vG qA.ok) x.what/\(vG cp) x.vU/\True
structure kD where
 e:qz
 PU:(Sl (Sl Int))
 inst:Int
 zk:Int
 deriving Inhabited,DecidableEq
def kD.enc(x:kD):List PV:=
 [m? q? x.e.span.qO,m? q? x.e.span.to,P? x.e.text,l? x.PU.nil (xd 1 x.PU.l) (w? (bo 1 zY) x.PU.l),m? q? x.inst,m? q? x.zk]
theorem kD.qG(x:kD):x.enc=[m? q? x.e.span.qO,m? q? x.e.span.to,P? x.e.text,l? x.PU.nil (xd 1 x.PU.l) (w? (bo 1 zY) x.PU.l),m? q? x.inst,m? q? x.zk]:=rfl
def kD.ok(x:kD):Prop:=qz.ok x.e/\(vG (vG cp)) x.PU/\cp x.inst/\cp x.zk/\True
structure jT where
 span:qk
 parts:(Sl qk)
 deriving Inhabited,DecidableEq
def jT.enc(x:jT):List PV:=
 [m? q? x.span.qO,m? q? x.span.to,l? x.parts.nil (xd 2 x.parts.l) (w? qk.enc x.parts.l)]
theorem jT.qG(x:jT):x.enc=[m? q? x.span.qO,m? q? x.span.to,l? x.parts.nil (xd 2 x.parts.l) (w? qk.enc x.parts.l)]:=rfl
def jT.ok(x:jT):Prop:=qk.ok x.span/\(vG qk.ok) x.parts/\True
structure z8 where
 bytes:Int
 breaks:Int
 an:Int
 du:Int
 deriving Inhabited,DecidableEq
def z8.enc(x:z8):List PV:=
 [m? q? x.bytes,m? q? x.breaks,m? q? x.an,m? q? x.du]
theorem z8.qG(x:z8):x.enc=[m? q? x.bytes,m? q? x.breaks,m? q? x.an,m? q? x.du]:=rfl
def z8.ok(x:z8):Prop:=cp x.bytes/\cp x.breaks/\cp x.an/\cp x.du/\True
structure qb where
 kind:Int
 text:qa
 n:Int
 jg:Bool
 first:Bool
 qQ:Bool
 qU:zo
 opts:(Sl qa)
 up:Int
 end_:Int
 deriving Inhabited
def qb.enc(x:qb):List PV:=
 [m? q? x.kind,P? x.text,m? q? x.n,Z? x.jg,Z? x.first,Z? x.qQ,m? q? x.qU.rx.kind,P? x.qU.rx.char,Z? x.qU.rx.not,l? x.qU.rx.rows.nil (xd 2 x.qU.rx.rows.l) (w? qW.enc x.qU.rx.rows.l),m? q? x.qU.rx.min,m? q? x.qU.rx.max,Z? x.qU.rx.lazy,l? x.qU.rx.qD.nil (xd 8 x.qU.rx.qD.l) (w? qF.enc x.qU.rx.qD.l),l? x.qU.uT.nil (xd 5 x.qU.uT.l) (w? zw.enc x.qU.uT.l),Z? x.qU.fold,Z? x.qU.all,l? x.opts.nil (xd 1 x.opts.l) (w? pR x.opts.l),m? q? x.up,m? q? x.end_]
theorem qb.qG(x:qb):x.enc=[m? q? x.kind,P? x.text,m? q? x.n,Z? x.jg,Z? x.first,Z? x.qQ,m? q? x.qU.rx.kind,P? x.qU.rx.char,Z? x.qU.rx.not,l? x.qU.rx.rows.nil (xd 2 x.qU.rx.rows.l) (w? qW.enc x.qU.rx.rows.l),m? q? x.qU.rx.min,m? q? x.qU.rx.max,Z? x.qU.rx.lazy,l? x.qU.rx.qD.nil (xd 8 x.qU.rx.qD.l) (w? qF.enc x.qU.rx.qD.l),l? x.qU.uT.nil (xd 5 x.qU.uT.l) (w? zw.enc x.qU.uT.l),Z? x.qU.fold,Z? x.qU.all,l? x.opts.nil (xd 1 x.opts.l) (w? pR x.opts.l),m? q? x.up,m? q? x.end_]:=rfl
def qb.ok(x:qb):Prop:=cp x.kind/\bp x.text/\cp x.n/\uV x.jg/\uV x.first/\uV x.qQ/\zo.ok x.qU/\(vG bp) x.opts/\cp x.up/\cp x.end_/\True
structure xf where
 env:(Sl qx)
 lead:qa
 unit:qa
 parts:(Sl qb)
 defs:(Sl Int)
 names:(Sl qa)
 deriving Inhabited
def xf.enc(x:xf):List PV:=
 [l? x.env.nil (xd 2 x.env.l) (w? qx.enc x.env.l),P? x.lead,P? x.unit,l? x.parts.nil (xd 20 x.parts.l) (w? qb.enc x.parts.l),l? x.defs.nil (xd 1 x.defs.l) (w? zY x.defs.l),l? x.names.nil (xd 1 x.names.l) (w? pR x.names.l)]
theorem xf.qG(x:xf):x.enc=[l? x.env.nil (xd 2 x.env.l) (w? qx.enc x.env.l),P? x.lead,P? x.unit,l? x.parts.nil (xd 20 x.parts.l) (w? qb.enc x.parts.l),l? x.defs.nil (xd 1 x.defs.l) (w? zY x.defs.l),l? x.names.nil (xd 1 x.names.l) (w? pR x.names.l)]:=rfl
def xf.ok(x:xf):Prop:=(vG qx.ok) x.env/\bp x.lead/\bp x.unit/\(vG qb.ok) x.parts/\(vG cp) x.defs/\(vG bp) x.names/\True
structure xe where
 ns:(Sl Int)
 ts:(Sl qa)
 deriving Inhabited,DecidableEq
def xe.enc(x:xe):List PV:=
 [l? x.ns.nil (xd 1 x.ns.l) (w? zY x.ns.l),l? x.ts.nil (xd 1 x.ts.l) (w? pR x.ts.l)]
theorem xe.qG(x:xe):x.enc=[l? x.ns.nil (xd 1 x.ns.l) (w? zY x.ns.l),l? x.ts.nil (xd 1 x.ts.l) (w? pR x.ts.l)]:=rfl
def xe.ok(x:xe):Prop:=(vG cp) x.ns/\(vG bp) x.ts/\True
structure qC where
 rx:qF
 qD:(Sl qC)
 lo:Int
 hi:Int
 deriving Inhabited
mutual
def qC.enc:qC->List PV
 |⟨x0,x1,x2,x3⟩=>[m? q? x0.kind,P? x0.char,Z? x0.not,l? x0.rows.nil (xd 2 x0.rows.l) (w? qW.enc x0.rows.l),m? q? x0.min,m? q? x0.max,Z? x0.lazy,l? x0.qD.nil (xd 8 x0.qD.l) (w? qF.enc x0.qD.l),qC.W2 x1,m? q? x2,m? q? x3]
def qC.W2:Sl qC->PV
 |⟨b,l⟩=> .sl b (xd 11 l) (qC.ZG l)
def qC.ZG:List qC->List (List PV)
 |[]=>[]
 |x::r=>x.enc::qC.ZG r
end
theorem qC.cA: ∀l:List qC,qC.ZG l=l.map qC.enc
 |[]=>rfl
 |x::r=>by simp[qC.ZG,qC.cA r]
theorem qC.ZH(s:Sl qC):qC.W2 s= .sl s.nil (xd 11 s.l) (s.l.map qC.enc):=by cases s;simp[qC.W2,qC.cA]
theorem qC.qG(x:qC):x.enc=[m? q? x.rx.kind,P? x.rx.char,Z? x.rx.not,l? x.rx.rows.nil (xd 2 x.rx.rows.l) (w? qW.enc x.rx.rows.l),m? q? x.rx.min,m? q? x.rx.max,Z? x.rx.lazy,l? x.rx.qD.nil (xd 8 x.rx.qD.l) (w? qF.enc x.rx.qD.l),l? x.qD.nil (xd 11 x.qD.l) (w? qC.enc x.qD.l),m? q? x.lo,m? q? x.hi]:=by cases x;simp[qC.enc,qC.ZH]
mutual
def qC.ok:qC->Prop
 |⟨x0,x1,x2,x3⟩=>qF.ok x0/\qC.okS x1/\cp x2/\cp x3/\True
def qC.okS:Sl qC->Prop
 |⟨b,l⟩=>(l.length<=maxLen/\(b=true->l=[]))/\qC.NH l
def qC.NH:List qC->Prop
 |[]=>True
 |x::r=>x.ok/\qC.NH r
end
theorem qC.aR: ∀l:List qC,qC.NH l↔ ∀a∈l,a.ok
 |[]=>by simp[qC.NH]
 |x::r=>by simp[qC.NH,qC.aR r]
theorem qC.X0(s:Sl qC):qC.okS s↔vG qC.ok s:=by cases s;simp[qC.okS,vG,qC.aR]
theorem qC.ok_eq(x:qC):x.ok↔(qF.ok x.rx/\(vG qC.ok) x.qD/\cp x.lo/\cp x.hi/\True):=by cases x;simp only[qC.ok,qC.X0]
structure wI where
 top:qC
 fold:Bool
 chars:(Sl qa)
 places:(Sl Int)
 parts:(Sl qk)
 fuel:Int
 out:Bool
 deriving Inhabited
def wI.enc(x:wI):List PV:=
 [m? q? x.top.rx.kind,P? x.top.rx.char,Z? x.top.rx.not,l? x.top.rx.rows.nil (xd 2 x.top.rx.rows.l) (w? qW.enc x.top.rx.rows.l),m? q? x.top.rx.min,m? q? x.top.rx.max,Z? x.top.rx.lazy,l? x.top.rx.qD.nil (xd 8 x.top.rx.qD.l) (w? qF.enc x.top.rx.qD.l),l? x.top.qD.nil (xd 11 x.top.qD.l) (w? qC.enc x.top.qD.l),m? q? x.top.lo,m? q? x.top.hi,Z? x.fold,l? x.chars.nil (xd 1 x.chars.l) (w? pR x.chars.l),l? x.places.nil (xd 1 x.places.l) (w? zY x.places.l),l? x.parts.nil (xd 2 x.parts.l) (w? qk.enc x.parts.l),m? q? x.fuel,Z? x.out]
theorem wI.qG(x:wI):x.enc=[m? q? x.top.rx.kind,P? x.top.rx.char,Z? x.top.rx.not,l? x.top.rx.rows.nil (xd 2 x.top.rx.rows.l) (w? qW.enc x.top.rx.rows.l),m? q? x.top.rx.min,m? q? x.top.rx.max,Z? x.top.rx.lazy,l? x.top.rx.qD.nil (xd 8 x.top.rx.qD.l) (w? qF.enc x.top.rx.qD.l),l? x.top.qD.nil (xd 11 x.top.qD.l) (w? qC.enc x.top.qD.l),m? q? x.top.lo,m? q? x.top.hi,Z? x.fold,l? x.chars.nil (xd 1 x.chars.l) (w? pR x.chars.l),l? x.places.nil (xd 1 x.places.l) (w? zY x.places.l),l? x.parts.nil (xd 2 x.parts.l) (w? qk.enc x.parts.l),m? q? x.fuel,Z? x.out]:=rfl
def wI.ok(x:wI):Prop:=qC.ok x.top/\uV x.fold/\(vG bp) x.chars/\(vG cp) x.places/\(vG qk.ok) x.parts/\cp x.fuel/\uV x.out/\True
structure ql where
 span:qk
 parts:(Sl qk)
 deriving Inhabited,DecidableEq
def ql.enc(x:ql):List PV:=
 [m? q? x.span.qO,m? q? x.span.to,l? x.parts.nil (xd 2 x.parts.l) (w? qk.enc x.parts.l)]
theorem ql.qG(x:ql):x.enc=[m? q? x.span.qO,m? q? x.span.to,l? x.parts.nil (xd 2 x.parts.l) (w? qk.enc x.parts.l)]:=rfl
def ql.ok(x:ql):Prop:=qk.ok x.span/\(vG qk.ok) x.parts/\True
structure qd where
 cs:(Sl qa)
 qo:Int
 deriving Inhabited,DecidableEq
def qd.enc(x:qd):List PV:=
 [l? x.cs.nil (xd 1 x.cs.l) (w? pR x.cs.l),m? q? x.qo]
theorem qd.qG(x:qd):x.enc=[l? x.cs.nil (xd 1 x.cs.l) (w? pR x.cs.l),m? q? x.qo]:=rfl
def qd.ok(x:qd):Prop:=(vG bp) x.cs/\cp x.qo/\True
structure qE where
 span:qk
 up:Int
 deriving Inhabited,DecidableEq
def qE.enc(x:qE):List PV:=
 [m? q? x.span.qO,m? q? x.span.to,m? q? x.up]
theorem qE.qG(x:qE):x.enc=[m? q? x.span.qO,m? q? x.span.to,m? q? x.up]:=rfl
def qE.ok(x:qE):Prop:=qk.ok x.span/\cp x.up/\True
structure qg where
 cs:(Sl qa)
 wN:(Sl Int)
 fold:Bool
 fuel:Int
 out:Bool
 deriving Inhabited,DecidableEq
def qg.enc(x:qg):List PV:=
 [l? x.cs.nil (xd 1 x.cs.l) (w? pR x.cs.l),l? x.wN.nil (xd 1 x.wN.l) (w? zY x.wN.l),Z? x.fold,m? q? x.fuel,Z? x.out]
theorem qg.qG(x:qg):x.enc=[l? x.cs.nil (xd 1 x.cs.l) (w? pR x.cs.l),l? x.wN.nil (xd 1 x.wN.l) (w? zY x.wN.l),Z? x.fold,m? q? x.fuel,Z? x.out]:=rfl
def qg.ok(x:qg):Prop:=(vG bp) x.cs/\(vG cp) x.wN/\uV x.fold/\cp x.fuel/\uV x.out/\True
structure qe where
 kind:Int
 x:qF
 g:Int
 many:Int
 qO:Int
 rest:(Option qe)
 deriving Inhabited
mutual
def qe.enc:qe->List PV
 |⟨x0,x1,x2,x3,x4,x5⟩=>[m? q? x0,m? q? x1.kind,P? x1.char,Z? x1.not,l? x1.rows.nil (xd 2 x1.rows.l) (w? qW.enc x1.rows.l),m? q? x1.min,m? q? x1.max,Z? x1.lazy,l? x1.qD.nil (xd 8 x1.qD.l) (w? qF.enc x1.qD.l),m? q? x2,m? q? x3,m? q? x4,qe.cB x5]
def qe.cB:Option qe->PV
 |none=> .yj
 |some x=> .rp x.enc
end
theorem qe.Yt:qe.cB none= .yj:=by simp[qe.cB]
theorem qe.Yu(x:qe):qe.cB (some x)= .rp x.enc:=by simp[qe.cB]
theorem qe.S6(k:Option qe)(H:qp):dd .ptr (.pv (qe.cB k)) H=some k.isNone:=by cases k<;>simp[qe.cB,dd]
theorem qe.BB(k:Option qe):g! (.pv (qe.cB k))=[.pv (qe.cB k)]:=by cases k<;>simp[qe.cB,g!]
theorem qe.qG(x:qe):x.enc=[m? q? x.kind,m? q? x.x.kind,P? x.x.char,Z? x.x.not,l? x.x.rows.nil (xd 2 x.x.rows.l) (w? qW.enc x.x.rows.l),m? q? x.x.min,m? q? x.x.max,Z? x.x.lazy,l? x.x.qD.nil (xd 8 x.x.qD.l) (w? qF.enc x.x.qD.l),m? q? x.g,m? q? x.many,m? q? x.qO,qe.cB x.rest]:=by cases x;simp[qe.enc]
def qe.ok(_:qe):Prop:=True
def S8:Option Bool:=some true
theorem aN{α:Type}{u0 u1:Bool}{p q:Option α}{r:α}{P:Prop}(f:u0=true->u1=true->p=some r->P)(g:((u0=false/\dT)\/(u0=true/\u1=false))->q=some r->P)(h:(if (u0&&u1)=true then p else q)=some r):P:=by cases u0<;>cases u1<;>simp_all [dT]
theorem K2{α:Type}{u0 u1 u2 u3 u4 u5 u6:Bool}{p q:Option α}{r:α}{P:Prop}(f:((u0=true/\u1=true/\dT/\dT/\dT/\dT/\dT)\/(u0=false/\dT/\u2=true/\u3=true/\dT/\dT/\dT)\/(u0=false/\dT/\u2=false/\dT/\u4=true/\u5=true/\dT)\/(u0=false/\dT/\u2=false/\dT/\u4=false/\dT/\u6=true)\/(u0=false/\dT/\u2=false/\dT/\u4=true/\u5=false/\u6=true)\/(u0=false/\dT/\u2=true/\u3=false/\u4=true/\u5=true/\dT)\/(u0=false/\dT/\u2=true/\u3=false/\u4=false/\dT/\u6=true)\/(u0=false/\dT/\u2=true/\u3=false/\u4=true/\u5=false/\u6=true)\/(u0=true/\u1=false/\u2=true/\u3=true/\dT/\dT/\dT)\/(u0=true/\u1=false/\u2=false/\dT/\u4=true/\u5=true/\dT)\/(u0=true/\u1=false/\u2=false/\dT/\u4=false/\dT/\u6=true)\/(u0=true/\u1=false/\u2=false/\dT/\u4=true/\u5=false/\u6=true)\/(u0=true/\u1=false/\u2=true/\u3=false/\u4=true/\u5=true/\dT)\/(u0=true/\u1=false/\u2=true/\u3=false/\u4=false/\dT/\u6=true)\/(u0=true/\u1=false/\u2=true/\u3=false/\u4=true/\u5=false/\u6=true))->p=some r->P)(g:((u0=false/\dT/\u2=false/\dT/\u4=false/\dT/\u6=false)\/(u0=false/\dT/\u2=false/\dT/\u4=true/\u5=false/\u6=false)\/(u0=false/\dT/\u2=true/\u3=false/\u4=false/\dT/\u6=false)\/(u0=false/\dT/\u2=true/\u3=false/\u4=true/\u5=false/\u6=false)\/(u0=true/\u1=false/\u2=false/\dT/\u4=false/\dT/\u6=false)\/(u0=true/\u1=false/\u2=false/\dT/\u4=true/\u5=false/\u6=false)\/(u0=true/\u1=false/\u2=true/\u3=false/\u4=false/\dT/\u6=false)\/(u0=true/\u1=false/\u2=true/\u3=false/\u4=true/\u5=false/\u6=false))->q=some r->P)(h:(if ((u0&&u1) || ((u2&&u3) || ((u4&&u5) || u6)))=true then p else q)=some r):P:=by cases u0<;>cases u1<;>cases u2<;>cases u3<;>cases u4<;>cases u5<;>cases u6<;>simp_all [dT]
theorem slot_0(s:St):bK s 0=s.env.get 0:=rfl
theorem slot_1(s:St):bK s 1=s.env.get 1:=rfl
theorem slot_2(s:St):bK s 2=s.env.get 2:=rfl
theorem slot_3(s:St):bK s 3=s.env.get 3:=rfl
theorem slot_4(s:St):bK s 4=s.env.get 4:=rfl
theorem slot_11(s:St):bK s 11=s.env.get 11:=rfl
theorem slot_14(s:St):bK s 14=s.env.get 14:=rfl
theorem slot_19(s:St):bK s 19=s.env.get 19:=rfl
theorem slot_20(s:St):bK s 20=s.env.get 20:=rfl
theorem slot_21(s:St):bK s 21=s.env.get 21:=rfl
theorem AE(s:St):bK s 2003=match s.env.get 3 with| .ptr b o=>(match s.heap.get b with|some (.box c)=>(match c[o+1]? with|some v=>v|none=> .undef)|_=> .undef)|_=> .undef:=rfl
theorem AF(s:St):bK s 3000=match s.env.get 0 with| .ptr b o=>(match s.heap.get b with|some (.box c)=>(match c[o+2]? with|some v=>v|none=> .undef)|_=> .undef)|_=> .undef:=rfl
theorem AG(s:St):bK s 4000=match s.env.get 0 with| .ptr b o=>(match s.heap.get b with|some (.box c)=>(match c[o+3]? with|some v=>v|none=> .undef)|_=> .undef)|_=> .undef:=rfl
theorem AH(s:St):bK s 4003=match s.env.get 3 with| .ptr b o=>(match s.heap.get b with|some (.box c)=>(match c[o+3]? with|some v=>v|none=> .undef)|_=> .undef)|_=> .undef:=rfl
theorem AJ(s:St):bK s 5000=match s.env.get 0 with| .ptr b o=>(match s.heap.get b with|some (.box c)=>(match c[o+4]? with|some v=>v|none=> .undef)|_=> .undef)|_=> .undef:=rfl
theorem AK(s:St):bK s 6000=match s.env.get 0 with| .ptr b o=>(match s.heap.get b with|some (.box c)=>(match c[o+5]? with|some v=>v|none=> .undef)|_=> .undef)|_=> .undef:=rfl
theorem natA(n:Nat):0+n=n:=Nat.zero_add n
def en:=PLift.up (g? (g? (g? (g? (g? encx.down (g? wordx.down @natA)) (g? @Int.cast_ofNat_Int (g? @List.append_nil.{0} @List.nil_append.{0}))) (g? (g? @q0p.{0} (g? @List.map_append.{0,0} @d?.{0,0})) (g? (g? @List.map_nil.{0,0} @t_.{0,0}) (g? @List.length_append.{0} @b?.{0})))) (g? (g? (g? @List.length_nil.{0} (g? @List.length_map.{0,0} @qm.qG)) (g? @qk.qG (g? @qW.qG @qF.qG))) (g? (g? @zw.qG (g? @zo.qG @qt.qG)) (g? (g? @qu.qG @qc.qG) (g? @qq.qG @qz.qG))))) (g? (g? (g? (g? @yD.qG (g? @qx.qG @zF.qG)) (g? @xD.qG (g? @xC.qG @jS.qG))) (g? (g? @zV.qG (g? @qA.qG @zO.qG)) (g? (g? @kD.qG @jT.qG) (g? @z8.qG @qb.qG)))) (g? (g? (g? @xf.qG (g? @xe.qG @qC.qG)) (g? @wI.qG (g? @ql.qG @qd.qG))) (g? (g? @qE.qG (g? @qg.qG @qe.S6)) (g? (g? @qe.BB @qe.Yt) (g? @qe.Yu @qe.qG))))))
end Go.Proofs.YtnfdnckadgcifaaGreat
