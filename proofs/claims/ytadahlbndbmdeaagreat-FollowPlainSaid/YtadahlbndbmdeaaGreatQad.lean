/-
  Go's structs as Lean's.
-/
import Derived.Test.YtadahlbndbmdeaaGreatQac
import Derived.Test.YtadahlbndbmdeaaGreatRows
import Derived.Shelf.SlIterI.Nil
import Derived.Shelf.SortM.Plain
import Derived.Shelf.SortM.SortNone
import Derived.Shelf.Lays
import Derived.Shelf.Strings.Builder1
import Derived.Shelf.Strings.BuilderX
open Bool renaming false->X,true->V
open Go.Gm renaming xB->K,PV->D
open _root_ renaming List->Z,Nat->U,Option->T,Int->R,congrArg->M,Bool->C
open And renaming intro->A
open Go.Gm.AV renaming cells->b!
open Go.Gm.PV renaming int->I,sl->B,bool->W?,str->F?
open Go.IntKind renaming i64->E,u8->D?,signed->O'
open List renaming map->N,length_cons->b?,replicate->f?,map_cons->e?,range->L?,all_eq_true->K!,map_set->c_,cons_append->q1b,map_drop->q1l,map_take->q1m
open Option renaming bind_eq_some_iff->J!,some->Y,none->J
set_option linter.unusedSimpArgs false
set_option linter.unusedVariables false
namespace Go.Gm
open Go
abbrev qa:=Z UInt8
structure Sl (α:Type) where
 nil:C
 l:Z α
 deriving Inhabited,DecidableEq
def oC(s:qa):Z D:=[.str s]
def jf(n:R):Z D:=[.int .i64 n]
def kE(k:IntKind)(n:R):Z D:=[.int k n]
def T8(b:C):Z D:=[.bool b]
def WX(b:UInt8):Z D:=[.int .u8 b.toNat]
def ro{α:Type}(k:U)(e:α->Z D)(s:Sl α):Z D:=[.sl s.nil (K k s.l) (N e s.l)]
def arr2E{α:Type}(e:α->Z D)(s:α×α):Z D:=e s.1++e s.2
abbrev ia:Prop:= ∀x:C,(x&&V)=x
def qk{α:Type}(l:Z α)(i:R):T α:=if 0<=i then l[i.toNat]? else J
def wz{α:Type}(l:Z α)(lo hi:R):T (Z α):=if(0<=lo/\0<=hi)/\(lo.toNat<=hi.toNat/\hi.toNat<=l.length)then Y ((l.take hi.toNat).drop lo.toNat)else J
def nR{α:Type}(l:Z α)(lo:R):T (Z α):=if 0<=lo/\lo.toNat<=l.length then Y (l.drop lo.toNat)else J
def wo{α:Type}(l:Z α)(hi:R):T (Z α):=if 0<=hi/\hi.toNat<=l.length then Y (l.take hi.toNat)else J
def u8(n:R):UInt8:=UInt8.ofNat n.toNat
def UO(n b:U):C:=ql n b
section
variable {α:Type} {l:Z α} {i lo hi:R} {x:α} {r:Z α}
theorem Xj(h:qk l i=Y x)(k:IntKind):uh (.pv (.int k i))=Y i.toNat:=by unfold qk at h;split at h;rename_i a;simp[uh,a];cases h
theorem nat_made(k:IntKind){n:R}(h:0<=n):uh (.pv (.int k n))=Y n.toNat:=by simp[uh,h]
theorem Zg(h:qk l i=Y x):l[i.toNat]? =Y x:=by unfold qk at h;split at h;exact h;cases h
theorem Xi{β:Type}(e:α->β)(h:qk l i=Y x):(N e l)[i.toNat]? =Y (e x):=by simp[Zg h]
theorem NA(h:qk l i=Y x):l.isEmpty=X:=by have:=Zg h;cases l<;>simp_all
theorem Ku(h:qk l i=Y x)(k:U):K k l=k:=by have:=Zg h;cases l<;>simp_all [K]
theorem Ov(h:qk l i=Y x)(k:U):(K k l=k)=True:=by simp[Ku h]
theorem XQ(h:qk l i=Y x):(i.toNat<l.length)=True:=by have:=Zg h;simp only[eq_iff_iff,iff_true];exact(qK this).1
theorem Ic(h:wz l lo hi=Y r)(k:IntKind):uh (.pv (.int k lo))=Y lo.toNat:=by unfold wz at h;split at h;rename_i a;simp[uh,a.1.1];cases h
theorem Ia(h:wz l lo hi=Y r)(k:IntKind):uh (.pv (.int k hi))=Y hi.toNat:=by unfold wz at h;split at h;rename_i a;simp[uh,a.1.2];cases h
theorem Ib(h:wz l lo hi=Y r):(lo.toNat<=hi.toNat)=True:=by unfold wz at h;split at h;rename_i a;simp[a.2.1];cases h
theorem So(h:wz l lo hi=Y r):(hi.toNat<=l.length)=True:=by unfold wz at h;split at h;rename_i a;simp[a.2.2];cases h
theorem KX(h:wz l lo hi=Y r):(l.take hi.toNat).drop lo.toNat=r:=by unfold wz at h;split at h<;>simp_all
theorem subF_lo(h:nR l lo=Y r)(k:IntKind):uh (.pv (.int k lo))=Y lo.toNat:=by unfold nR at h;split at h;rename_i a;simp[uh,a.1];cases h
theorem subF_le(h:nR l lo=Y r):(lo.toNat<=l.length)=True:=by unfold nR at h;split at h;rename_i a;simp[a.2];cases h
theorem MN(h:nR l lo=Y r):l.drop lo.toNat=r:=by unfold nR at h;split at h<;>simp_all
theorem subT_hi(h:wo l hi=Y r)(k:IntKind):uh (.pv (.int k hi))=Y hi.toNat:=by unfold wo at h;split at h;rename_i a;simp[uh,a.1];cases h
theorem subT_len(h:wo l hi=Y r):(hi.toNat<=l.length)=True:=by unfold wo at h;split at h;rename_i a;simp[a.2];cases h
theorem MP(h:wo l hi=Y r):l.take hi.toNat=r:=by unfold wo at h;split at h<;>simp_all
theorem Re{β:Type}(e:α->β)(h:wz l lo hi=Y r):((N e l).take hi.toNat).drop lo.toNat=N e r:=by rw[<- q1m,<- q1l,KX h]
theorem map_subF{β:Type}(e:α->β)(h:nR l lo=Y r):(N e l).drop lo.toNat=N e r:=by rw[<- q1l,MN h]
theorem map_subT{β:Type}(e:α->β)(h:wo l hi=Y r):(N e l).take hi.toNat=N e r:=by rw[<- q1m,MP h]
theorem Su(h:wz l lo hi=Y r)(k:U):K (K k l) r=K k r:=by have:=KX h;cases r with|nil=>rfl|cons=>cases l<;>simp_all [K]
theorem szc_subF(h:nR l lo=Y r)(k:U):K (K k l) r=K k r:=by have:=MN h;cases r with|nil=>rfl|cons=>cases l<;>simp_all [K]
theorem szc_subT(h:wo l hi=Y r)(k:U):K (K k l) r=K k r:=by have:=MP h;cases r with|nil=>rfl|cons=>cases l<;>simp_all [K]
theorem Ig{β:Type}(k:U)(e:α->β)(l:Z α):K k (N e l)=K k l:=by cases l<;>rfl
theorem szc_szc(k:U)(l:Z α):K (K k l) l=K k l:=by cases l<;>rfl
theorem Ih(k:U):K k ([]:Z α)=0:=rfl
theorem Sr(k:U)(x:α)(l:Z α):K k (x::l)=k:=rfl
theorem Ss(k:U)(l:Z α)(x:α)(r:Z α):K k (l++x::r)=k:=by cases l<;>rfl
theorem Ii(k:U)(l:Z α)(i:U)(x:α):K k (l.set i x)=K k l:=by cases l<;>cases i<;>rfl
theorem Ao{β:Type}(e:α->β)(l:Z α):(N e l).isEmpty=l.isEmpty:=by cases l<;>rfl
theorem Tr(l:Z α)(x:α)(r:Z α):(l++x::r).isEmpty=X:=by cases l<;>rfl
theorem Aq(l:Z α)(i:U)(x:α):(l.set i x).isEmpty=l.isEmpty:=by cases l<;>cases i<;>rfl
theorem Tq(x:α)(l:Z α):(x::l).isEmpty=X:=rfl
theorem Ap:([]:Z α).isEmpty=V:=rfl
theorem szc_or{β:Type}(k:U)(e:α->β)(l:Z α):(K k l=k\/N e l=[])=True:=by cases l<;>simp[K]
theorem map_set{β:Type}(e:α->β)(l:Z α)(i:U)(x:α):(N e l).set i (e x)=N e (l.set i x):=by simp[c_]
theorem map_byte(s:qa):N (λb=>[I .u8 (b.toNat:R)]) s=N WX s:=rfl
theorem X7: ∀s:qa,s7 (N WX s)=Y s
 |[]=>rfl
 |b::s=>by simp[WX,s7,X7 s]
theorem u8_nat(b:UInt8):u8 (b.toNat:R)=b:=by simp[u8]
theorem In(n:R):((u8 (D?.wrap n)).toNat:R)=D?.wrap n:=by
 have h:0<=D?.wrap n/\D?.wrap n<256:=by simp only[IntKind.wrap,IntKind.bits,O'];constructor;simp;omega;simp;omega
 simp only[u8,UInt8.toNat_ofNat'];omega
theorem range1:L? 1=[0]:=rfl
theorem range2:L? 2=[0,1]:=rfl
theorem range3:L? 3=[0,1,2]:=rfl
theorem range4:L? 4=[0,1,2,3]:=rfl
theorem range5:L? 5=[0,1,2,3,4]:=rfl
theorem range6:L? 6=[0,1,2,3,4,5]:=rfl
def lO(a:TI)(β L n:U)(src:Z (Z D))(nx:U):T qD->T ru
 |some (.row V _ es)=>if L=es.length/\n=0 then wd a (.row β L 0 n) src β nx nx else J
 |some (.row X b es)=>
  if L=es.length/\b=a.size/\ql (n+src.length) a.bytes=V then
   if n=es.length then Y (.row β (es++src).length 0 (es++src).length,[(β,.row X a.size (es++src))],nx)
   else Y (.row β (es.take n++src++es.drop (n+src.length)).length 0 (n+src.length),[(β,.row X a.size (es.take n++src++es.drop (n+src.length)))],nx)
  else J
 |_=>J
theorem rowApp_F(a:TI)(β L n nx b:U)(es src:Z (Z D)):lO a β L n src nx (Y (.row X b es))=
  if L=es.length/\b=a.size/\ql (n+src.length) a.bytes=V then
   if n=es.length then Y (.row β (es++src).length 0 (es++src).length,[(β,.row X a.size (es++src))],nx)
   else Y (.row β (es.take n++src++es.drop (n+src.length)).length 0 (n+src.length),[(β,.row X a.size (es.take n++src++es.drop (n+src.length)))],nx)
  else J:=rfl
theorem rowApp_T(a:TI)(β L n nx b:U)(es src:Z (Z D)):lO a β L n src nx (Y (.row V b es))=if L=es.length/\n=0 then wd a (.row β L 0 n) src β nx nx else J:=rfl
def Yh(a:TI)(β L n:U)(H:qt)(nx:U)(d:T ru):T (U×Z (Z D))->T ru
 |none=>d
 |some (d7,src)=>if(d7=a.size\/src=[])/\0<a.size then lO a β L n src nx (H.get β)else J
theorem PK(a:TI)(β L n:U)(x:AV)(H:qt)(nx:U):ng a (.row β L 0 n) x H nx=Yh a β L n H nx (rB a (.row β L 0 n) x H nx) (gj x H):=by unfold ng Yh;cases gj x H with|none=>rfl|some p=>obtain⟨d7,src⟩:=p;simp only;split;(unfold lO;cases H.get β with|none=>rfl|some b=>cases b with|row c sz es=>cases c<;>simp|_=>rfl);rfl
theorem PJ(a:TI)(b:U)(es:Z (Z D))(x:AV)(H:qt)(nx:U):ng a (.pv (.sl V b es)) x H nx=
  match gj x H with
  |none=>rB a (.pv (.sl V b es)) x H nx
  |some (d7,src)=>if(d7=a.size\/src=[])/\0<a.size then wd a (.pv (.sl V b es)) src nx nx (nx+1)else J:=rfl
theorem PL(a:TI)(x:AV)(H:qt)(nx:U):ng a .QZ x H nx=
  match gj x H with
  |none=>rB a .QZ x H nx
  |some (d7,src)=>if(d7=a.size\/src=[])/\0<a.size then wd a .QZ src nx nx (nx+1)else J:=rfl
theorem S1(b:TI)(β k nx:U)(e:α->Z D)(l:Z α)(c:Z D)(src:Z (Z D))(g:k=b.size)(f:ql (l.length+(c::src).length) b.bytes=V):
  lO b β l.length l.length (c::src) nx (Y (.row l.isEmpty (K k l) (N e l)))=
   Y (.row β (N e l++c::src).length 0 (N e l++c::src).length,[(β,.row X k (N e l++c::src))],nx):=by subst g;cases l with|nil=>(have d:ql (src.length+1) b.bytes=V:=by simpa using f);simp[lO,wd,d]|cons a l=>(have d:ql (l.length+1+(src.length+1)) b.bytes=V:=by simpa using f);simp[lO,K,d]
theorem fresh_ne{γ:Type}(d:TI)(s:AV)(e :γ->Z D)(a:Z γ)(b nx iy:U)(hs:a.isEmpty=X)(f:ql a.length d.bytes=V):
  wd d s (N e a) b nx iy=Y (.row b a.length 0 a.length,[(b,.row X d.size (N e a))],iy):=by cases a with|nil=>simp at hs|cons c r=>(have g:ql (r.length+1) d.bytes=V:=by simpa using f);simp[wd,g]
theorem app_ne{γ:Type}{l s:Z γ}(h:(l.isEmpty&&s.isEmpty)=X):(l++s).isEmpty=X:=by cases l<;>cases s<;>simp_all
theorem app_szc{γ:Type}{l s:Z γ}(h:(l.isEmpty&&s.isEmpty)=X)(k:U):K k (l++s)=k:=by cases l<;>cases s<;>simp_all [K]
end
structure sm where
 es:Z (R×R×U)
 xf:U
 deriving Inhabited
def Wj(e:R×R×U):D×D×U:=(.int .i64 e.1,.int .i64 e.2.1,e.2.2)
def gT(k:R):Z (R×R×U)->U->T (U×R×U)
 |[],_=>J
 |(x,v,b)::r,i=>if k==x then Y (i,v,b)else gT k r (i+1)
def Jc(m:sm)(k:R):C:=(gT k m.es 0).isSome
def ZO(m:sm)(k:R):R:=match gT k m.es 0 with|some (_,v,_)=>v|none=>0
def JN(m:sm)(k v:R):sm:=match gT k m.es 0 with|some (i,_,b)=>⟨m.es.set i (k,v,b),m.xf⟩|none=>⟨m.es++[(k,v,m.xf)],m.xf+1⟩
theorem XP(k:R): ∀(l:Z (R×R×U))(i:U),findKey (.int .i64 k) (N Wj l) i=Y ((gT k l i).map λx=>(x.1,.int .i64 x.2.1,x.2.2))
 |[],i=>rfl
 |(x,v,b)::r,i=>by simp only[e?,Wj,findKey,R1,gT,if_true];cases h:(k==x)with|true=>simp|false=>simp only[XP k r (i+1)];simp
def Uq(a:TI)(k:D)(ok:C):T qD->T AV
 |some (.map es _)=>match findKey k es 0 with
  |some (Y (_,v,_))=>Y (if ok then .xL [.pv v,.pv (.bool V)]else .pv v)
  |some J=>Y (if ok then .xL [.pv (KO a),.pv (.bool X)]else .pv (KO a))
  |none=>J
 |_=>J
def updB(β:U)(k v:D):T qD->T (Z (U×qD))
 |some (.map es xf)=>match findKey k es 0 with
  |some (Y (i,_,born))=>Y [(β,.map (es.set i (k,v,born)) xf)]
  |some J=>Y [(β,.map (es++[(k,v,xf)]) (xf+1))]
  |none=>J
 |_=>J
def delB(β:U)(k:D):T qD->T (Z (U×qD))
 |some (.map es xf)=>match findKey k es 0 with
  |some (Y (i,_,_))=>Y [(β,.map (es.eraseIdx i) xf)]
  |some J=>Y [(β,.map es xf)]
  |none=>J
 |_=>J
theorem ID(a c:TI)(β:U)(k:D)(ok:C)(H:qt):oN a c (.map β) (.pv k) ok H=if kV a.td k=V then Uq c k ok (H.get β)else J:=by unfold oN Yy;simp only;split;(cases H.get β with|none=>rfl|some b=>cases b<;>rfl);rfl
theorem IG(a:TI)(β:U)(k v:D)(H:qt):dc a (.map β) (.pv k) v H=if kV a.td k=V then updB β k v (H.get β)else J:=by unfold dc;simp only;split;(cases H.get β with|none=>rfl|some b=>cases b<;>rfl);rfl
theorem aEntry_B(a b:TI)(β:U)(k:D)(H:qt):X1 a b (.map β) (.pv k) H=J:=rfl
theorem HB(β:U)(a:IntKind)(born:R)(v:D)(H:qt):pa (.map β) (.pv (.int a born)) v H=J:=rfl
theorem IA(a:TI)(β:U)(k:D)(H:qt):fV a (.map β) (.pv k) H=if kV a.td k=V then delB β k (H.get β)else J:=by unfold fV;simp only;split;(cases H.get β with|none=>rfl|some b=>cases b<;>rfl);rfl
section
variable (b:C) (β:U) (m:sm) (k:R)
theorem mii_get:Uq ⟨1,8,.int .i64,[.int .i64 0],b,J⟩ (.int .i64 k) X (Y (.map (N Wj m.es) m.xf))=Y (.pv (.int .i64 (ZO m k))):=by simp only[Uq,XP,ZO];cases gT k m.es 0<;>simp[KO,TI.isAgg]
theorem mii_get2:Uq ⟨1,8,.int .i64,[.int .i64 0],b,J⟩ (.int .i64 k) V (Y (.map (N Wj m.es) m.xf))=Y (.xL [.pv (.int .i64 (ZO m k)),.pv (.bool (Jc m k))]):=by simp only[Uq,XP,ZO,Jc];cases gT k m.es 0<;>simp[KO,TI.isAgg]
theorem mii_put(v:R):updB β (.int .i64 k) (.int .i64 v) (Y (.map (N Wj m.es) m.xf))=Y [(β,.map (N Wj (JN m k v).es) (JN m k v).xf)]:=by simp only[updB,XP,JN];cases gT k m.es 0<;>simp[Wj,c_]
end
theorem KD(k:R): ∀(l:Z (R×R×U))(e:R×R×U)(i:U),gT k (l++[e]) i=match gT k l i with|some x=>Y x|none=>if k==e.1 then Y (i+l.length,e.2.1,e.2.2)else J
 |[],e,i=>by simp[gT]
 |(x,v,b)::r,e,i=>by simp only[q1b,gT];split;rfl;rw[KD k r e (i+1)];simp only[b?];have:i+1+r.length=i+(r.length+1):=o?;rw[this]
theorem Wx(k k' :Int)(v:Int): ∀(l:List (Int×Int×Nat))(i j:Nat)(w:Int)(b:Nat),gT k l i=some (i+j,w,b)->
  gT k' (l.set j (k,v,b)) i=if k' ==k then some (i+j,v,b)else gT k' l i
 |[],i,j,w,b,h=>by simp[gT]at h
 |(x,u,c)::r,i,j,w,b,h=>by simp only[gT]at h;split at h;rename_i hk;simp only[wO,Prod.mk.injEq]at h;obtain⟨h1,rfl,rfl⟩:=h;have:j=0:=o?;subst this;simp only[beq_iff_eq]at hk;subst hk;simp only[List.set_cons_zero,gT,Nat.add_zero];by_cases e:k' =k<;>simp[e];(rename_i hk;have hge: ∀(l:List (Int×Int×Nat))(n m:Nat)(w:Int)(b:Nat),gT k l n=some (m,w,b)->n<=m:=by intro l;induction l with|nil=>intro n m w b h;simp[gT]at h|cons y r ih=>intro n m w b h;simp only[gT]at h;split at h;cases h;exact ke _;have:=ih (n+1) m w b h;omega);(have:=hge r (i+1) (i+j) w b h;obtain⟨j',rfl⟩: ∃j',j=j' +1:=⟨j-1,o?⟩;have h' :gT k r (i+1)=some (i+1+j',w,b):=by rw[h];congr 2;omega);have ih:=Wx k k' v r (i+1) j' w b h';simp only[List.set_cons_succ,gT,ih];by_cases e1:k' =x;(subst e1;have:(k==k')=false:=by simpa using hk);(have h2:(k' ==k)=false:=by simp at this |-; exact λh=>this h.symm);simp[h2];(have:(k' ==x)=false:=by simpa using e1);simp only[this,vH,if_false];have:i+1+j' =i+(j' +1):=o?;rw[this]
theorem B6(m:sm)(k v k' :Int):gT k' (JN m k v).es 0=if k' ==k then some (((gT k (JN m k v).es 0).getD (0,0,0)).1,v,((gT k (JN m k v).es 0).getD (0,0,0)).2.2)else gT k' m.es 0:=by unfold JN;cases h:gT k m.es 0 with|none=>simp only[KD,h];by_cases e:k' =k;subst e;simp[h];(have:(k' ==k)=false:=by simpa using e);simp only[this,vH,if_false];cases gT k' m.es 0<;>rfl|some x=>(obtain⟨i,w,b⟩:=x;have h' :gT k m.es 0=some (0+i,w,b):=by simpa using h);simp only[Wx k k' v m.es 0 i w b h',Wx k k v m.es 0 i w b h'];by_cases e:k' =k<;>simp[e]
theorem Ri(m:sm)(k v k' :R):ZO (JN m k v) k' =if k' =k then v else ZO m k' :=by unfold ZO;rw[B6];by_cases e:k' =k<;>simp[e]
theorem Rj(m:sm)(k v k' :R):Jc (JN m k v) k' =if k' =k then V else Jc m k' :=by unfold Jc;rw[B6];by_cases e:k' =k<;>simp[e]
theorem mhas_nil(k:R):Jc ⟨[],0⟩ k=X:=rfl
theorem xQ{α:Type}{l:Z α}{n:U}(h:n<l.length):qk l (n:R)=Y l[n]:=by simp[qk,h]
theorem mcons{α β:Type}(f:α->β)(a:α)(l:Z α):N f (a::l)=f a::N f l:=rfl
theorem mnil{α β:Type}(f:α->β):N f ([]:Z α)=[]:=rfl
theorem lnil{α:Type}:([]:Z α).length=0:=rfl
theorem lcons{α:Type}(a:α)(l:Z α):(a::l).length=l.length+1:=rfl
theorem lset{α:Type}(l:Z α)(i:U)(x:α):(l.set i x).length=l.length:=Z.length_set
def encx:=PLift.up (A @mcons (A @mnil (A @lnil (A @lcons (A @Ih (A @Sr (A @Ss (A @Ii (A @Ap (A @Tq (A @Tr (A @Aq (A @lset (A @u8_nat @In))))))))))))))
theorem Jo{α:Type}{P:Program}{t:TypeId}{e:α->Z D}{ok:α->Prop}{n:U}(h:wq P t e ok n):wq P t e (λ_=>True) n:=h.map (λx=>x) (λ_ _=>⟨trivial,rfl⟩)
def KK{α β:Type}(e1:α->Z D)(e2:β->Z D)(x:α×β):Z D:=e1 x.1++e2 x.2
def mW{α:Type}(_:α):Prop:=True
def M3(_:Unit):Z D:=[]
theorem Q1{α β:Type}{P:Program}{f:Field}{g:Z Field}{e1:α->Z D}{e:α->Prop}{e2:β->Z D}{n off c:U}(i:f.offset=off)(j:P.cellsOf f.type=c)
  (l:wq P f.type e1 e n) (k:d9 P g e2 mW n (off+c)):d9 P (f::g) (KK e1 e2) mW n off:=by intro H enc w base spare held fuel cs a b d;obtain⟨x,m,_,h⟩:=d9.cons i j l k H enc w base spare held fuel cs a b d;exact⟨x,m,trivial,h⟩
theorem fNil{P:Program}(n off:U):d9 P [] M3 mW n off:=by intro H enc w base spare held fuel cs a b d;obtain⟨x,m,_,h⟩:=d9.nil (P:=P) n off H enc w base spare held fuel cs a b d;exact⟨x,m,trivial,h⟩
theorem rdSl{α:Type}{P:Program}{t el:TypeId}{sz:U}{e:α->Z D}{ok:α->Prop}{n:U}(b:P.underlying t=Y (.slice el))(c:P.cellsOf t=1)(a:P.cellsOf el=sz)(d:0<sz)
  (h:wq P el e ok n):wq P t (ro sz e) (λ_=>True) n:=
 ((wq.slice b c a d h).map (λx=>(⟨x.1&&x.2.isEmpty,x.2⟩:Sl α)) (λx _=>⟨trivial,by simp[ro,slP,Ao,Ig]⟩)).mono (U.le_succ n)
def Q4(n:R):Prop:= -9223372036854775808<=n/\n<=9223372036854775807
def tO(s:qa):Prop:=s.length<=maxLen
def th{α:Type}(ok:α->Prop)(s:Sl α):Prop:=(s.l.length<=maxLen/\(s.nil=V->s.l=[]))/\ ∀a∈s.l,ok a
theorem drop_cons{α:Type}{a:Z α}{i:U}{x:α}{r:Z α}(h:a.drop i=x::r):a[i]? =Y x/\a.drop (i+1)=r/\i<a.length:=by
 have b:a[i]? =Y x:=by have:=M (λl=>l[0]?) h;simpa using this
 have c:a.drop (i+1)=r:=by have:=M (λl=>l.drop 1) h;simpa[Z.drop_drop]using this
 exact⟨b,c,(qK b).1⟩
theorem u9{α:Type}{a:Z α}{i:U}(h:a.drop i=[]):a.length<=i:=by simpa using h
theorem qy{n:R}(b: -9223372036854775808<=n)(a:n<=9223372036854775807):E.wrap n=n:=IntWalk.i64_in n ⟨b,a⟩
theorem sj{n:U}(h:n<9223372036854775807):E.wrap ((n:R)+1)=((n+1:U):R):=qy o? o?
theorem CC(b:C):b! (.pv (.bool b))=[(.pv (.bool b))]:=rfl
theorem IQ(k:IntKind)(n:R):b! (.pv (.int k n))=[(.pv (.int k n))]:=rfl
theorem IU(l:Z UInt8):b! (.pv (.str l))=[(.pv (.str l))]:=rfl
theorem cells_sl(a:C)(b:U)(c:Z (Z D)):b! (.pv (.sl a b c))=[(.pv (.sl a b c))]:=rfl
theorem Nj:b! (.pv (.uI))=[(.pv (.uI))]:=rfl
theorem Te:b! (.pv (.iw))=[(.pv (.iw))]:=rfl
theorem Ni:b! (.pv (.pC))=[(.pv (.pC))]:=rfl
theorem Tf:b! (.pv (.Qf))=[(.pv (.Qf))]:=rfl
theorem cells_fn(f:FuncId):b! (.pv (.fn f))=[(.pv (.fn f))]:=rfl
theorem cells_rp(c:Z D):b! (.pv (.rp c))=[(.pv (.rp c))]:=rfl
theorem CD(c:Z D):b! (.pv (.agg c))=c.map .pv:=rfl
theorem Cy(x y:U):b! (.ptr x y)=[(.ptr x y)]:=rfl
theorem Tb(x y z u:U):b! (.bP x y z u)=[(.bP x y z u)]:=rfl
theorem Tc(c:Z D)(x:U):b! (.cE c x)=[(.cE c x)]:=rfl
theorem Cz(x y z u:U):b! (.row x y z u)=[(.row x y z u)]:=rfl
theorem CB:b! (.QZ)=[(.QZ)]:=rfl
theorem Cx(x:U):b! (.map x)=[(.map x)]:=rfl
theorem Cw(f:FuncId)(a b:Z AV):b! (.XK f a b)=[(.XK f a b)]:=rfl
theorem CA(l:Z AV):b! (.xL l)=[(.xL l)]:=rfl
theorem IP(c:Z AV):b! (.agg c)=c:=rfl
abbrev qh(n:R):AV:= .pv (.int .i64 n)
abbrev zN(b:C):AV:= .pv (.bool b)
abbrev qP(s:qa):AV:= .pv (.str s)
abbrev XF(l:Z D):AV:= .pv (.agg l)
abbrev v_l{α:Type}(k:U)(e:α->Z D)(s:Sl α):AV:= .pv (.sl s.nil (K k s.l) (N e s.l))
abbrev qq{α:Type}(β:U)(l:Z α):AV:= .row β l.length 0 l.length
abbrev b_x(l:Z D):qD:= .box (N .pv l)
abbrev b_r{α:Type}(k:U)(e:α->Z D)(l:Z α):qD:= .row l.isEmpty (K k l) (N e l)
abbrev b_m(m:sm):qD:= .map (N Wj m.es) m.xf
theorem v_i_eq(n:R):qh n= .pv (.int .i64 n):=rfl
theorem v_b_eq(b:C):zN b= .pv (.bool b):=rfl
theorem v_s_eq(s:qa):qP s= .pv (.str s):=rfl
theorem v_g_eq(l:Z D):XF l= .pv (.agg l):=rfl
theorem v_l_eq{α:Type}(k:U)(e:α->Z D)(s:Sl α):v_l k e s= .pv (.sl s.nil (K k s.l) (N e s.l)):=rfl
theorem v_r_eq{α:Type}(β:U)(l:Z α):qq β l= .row β l.length 0 l.length:=rfl
theorem b_x_eq(l:Z D):b_x l= .box (N .pv l):=rfl
theorem b_r_eq{α:Type}(k:U)(e:α->Z D)(l:Z α):b_r k e l= .row l.isEmpty (K k l) (N e l):=rfl
theorem b_m_eq(m:sm):b_m m= .map (N Wj m.es) m.xf:=rfl
theorem byteE_eq(b:UInt8):WX b=[.int .u8 b.toNat]:=rfl
theorem intE_eq(n:R):jf n=[.int .i64 n]:=rfl
theorem strE_eq(s:qa):oC s=[.str s]:=rfl
theorem boolE_eq(b:C):T8 b=[.bool b]:=rfl
theorem kE_eq(k:IntKind)(n:R):kE k n=[.int k n]:=rfl
theorem slE_eq{α:Type}(k:U)(e:α->Z D)(s:Sl α):ro k e s=[.sl s.nil (K k s.l) (N e s.l)]:=rfl
theorem arr2E_eq{α:Type}(e:α->Z D)(s:α×α):arr2E e s=e s.1++e s.2:=rfl
def wordx:=PLift.up (A @v_i_eq (A @v_b_eq (A @v_s_eq (A @v_g_eq (A @v_l_eq (A @v_r_eq (A @b_x_eq (A @b_r_eq (A @b_m_eq (A @byteE_eq (A @intE_eq (A @strE_eq (A @boolE_eq (A @kE_eq (A @slE_eq @arr2E_eq)))))))))))))))
section
variable {α β:Type} {r:β} {P:Prop}
theorem bs{o:T α}{k:α->T β}(f: ∀x,o=Y x->k x=Y r->P)(h:o>>=k=Y r):P:=by obtain⟨x,b,a⟩:=J!.1 h;exact f x b a
theorem it{b:C}{p q:T β}(f:b=V->p=Y r->P)(g:b=X->q=Y r->P)(h:(if b=V then p else q)=Y r):P:=by cases b;exact g rfl h;exact f rfl h
theorem gd{Q:Prop}[Decidable Q]{p:T β}(f:Q->p=Y r->P)(h:(if Q then p else J)=Y r):P:=by split at h;exact f ‹_› h;cases h
variable {l:Z α} {i lo hi:R}
theorem bw{k:α->T β}(e:α->Z D)(f: ∀x,qk l i=Y x->(∀ b,uh (.pv (.int b i))=Y i.toNat)->(N e l)[i.toNat]? =Y (e x)->(i.toNat<l.length)=True->k x=Y r->P)(h:qk l i>>=k=Y r):P:=
 bs (λx a=>f x a (Xj a) (Xi e a) (XQ a)) h
theorem bW{k:α->T β}(e:α->Z D)(z:U)(f: ∀x,qk l i=Y x->(∀ b,uh (.pv (.int b i))=Y i.toNat)->(N e l)[i.toNat]? =Y (e x)->(i.toNat<l.length)=True->l.isEmpty=X->K z l=z->k x=Y r->P)(h:qk l i>>=k=Y r):P:=
 bs (λx a=>f x a (Xj a) (Xi e a) (XQ a) (NA a) (Ku a z)) h
variable {k:Z α->T β}
theorem b2(e:α->Z D)(f: ∀x,wz l lo hi=Y x->(∀ b,uh (.pv (.int b lo))=Y lo.toNat)->(∀ b,uh (.pv (.int b hi))=Y hi.toNat)->(lo.toNat<=hi.toNat)=True->(hi.toNat<=l.length)=True->((N e l).take hi.toNat).drop lo.toNat=N e x->(∀ z,K (K z l) x=K z x)->k x=Y r->P)(h:wz l lo hi>>=k=Y r):P:=
 bs (λx a=>f x a (Ic a) (Ia a) (Ib a) (So a) (Re e a) (Su a)) h
variable {s:Z α}
theorem rG(k:U)(e:α->Z D)(l:Z α)(a:TI)(β nx:U)(c:Z D)(d:k=a.size)(b:ql (l.length+1) a.bytes=V):
  lO a β l.length l.length [c] nx (Y (.row l.isEmpty (K k l) (N e l)))=Y (.row β (N e l++[c]).length 0 (N e l++[c]).length,[(β,.row X k (N e l++[c]))],nx):=S1 a β k nx e l c [] d b
theorem rN(e:α->Z D)(hs:s.isEmpty=X)(a:TI)(v:AV)(b nx iy:U)(c:ql s.length a.bytes=V):wd a v (N e s) b nx iy=Y (.row b s.length 0 s.length,[(b,.row X a.size (N e s))],iy):=fresh_ne a v e s b nx iy hs c
end
section
variable (m:sm) (k v:R) (b:C) (β:U)
theorem mG:Uq ⟨1,8,.int .i64,[.int .i64 0],b,J⟩ (.int .i64 k) X (Y (.map (N Wj m.es) m.xf))=Y (.pv (.int .i64 (ZO m k))):=mii_get b m k
theorem mG2:Uq ⟨1,8,.int .i64,[.int .i64 0],b,J⟩ (.int .i64 k) V (Y (.map (N Wj m.es) m.xf))=Y (.xL [.pv (.int .i64 (ZO m k)),.pv (.bool (Jc m k))]):=mii_get2 b m k
theorem mP:updB β (.int .i64 k) (.int .i64 v) (Y (.map (N Wj m.es) m.xf))=Y [(β,.map (N Wj (JN m k v).es) (JN m k v).xf)]:=mii_put β m k v
end
theorem fF{G:GP}{f:FuncId}{S:rX}{nt:Nat}{ob:Option Code}{ra:Array ResultVar}(Wm:G.fn f=some ⟨nt,ra.toList,ob.get!⟩){c:Code}{rs:List ResultVar}{H:qt}{args:List AV}{r:Option (AV×qt)}
  (hs:S.call f=none:=by rfl) (hc:ob=some c:=by rfl) (hr:ra=⟨rs⟩:=by rfl) (hk:bS 0 H=true:=by rfl)
  (h:GD G f H.length rs (cont G (omega G S) f [.code c] (.normal,⟨dd 0 args,H,H.length⟩))=r:=by
   simp(maxSteps:=2000000) (disch:=first|assumption|rfl|exact Sure.mk (by kernel_rfl)) only[go_sem,↓reduceIte,Nat.reduceLeDiff,Nat.reduceEqDiff,Nat.reduceLT,Nat.reduceAdd,Nat.reduceSub,Nat.reduceMul,reduceCtorEq,Nat.reducePow, *]):
  (omega G S).call f args H=r:=Ea hs Wm hc hr hk h
theorem fL{G:GP}{f:FuncId}{S:rX}{fi:FI}(Wm:G.fn f=some fi){id:Nat}{c:Code}{s:St}{r:Option (Ex×St)}
  (hc:xj fi.body id=some c:=by rfl)
  (h:om G (omega G S) f id s.nx (cont G (omega G S) f [.code c] (.normal,s))=r:=by
   simp(maxSteps:=2000000) (disch:=first|assumption|rfl|exact Sure.mk (by kernel_rfl)) only[go_sem,↓reduceIte,Nat.reduceLeDiff,Nat.reduceEqDiff,Nat.reduceLT,Nat.reduceAdd,Nat.reduceSub,Nat.reduceMul,reduceCtorEq,Nat.reducePow, *]):
  (omega G S).loop f id s=r:=Eb Wm hc h
def Mx(H:qt):Z U->Z U
 |[]=>[]
 |β::r=>(dQ H β).refs++Mx H r
theorem BJ(H:qt): ∀d:Z U,(d.flatMap λβ=>(dQ H β).refs)=Mx H d
 |[]=>rfl
 |β::r=>by rw[Z.flatMap_cons,BJ H r];rfl
theorem q0u(H:qt)(d roots:Z U):dN H d roots=match roots,d with
 |[],[]=>Y ([],[])
 |roots,d=>let L:=tD H 400 (roots++Mx H d) d
  if MO roots L&&sM H L L then Y (L,pick H (pos L) 0 L)else J:=by cases roots<;>cases d<;>first|rfl|simp only[dN,BJ]
theorem aNil_p1(H:qt):ea .ptr (.pv .uI) H=Y V:=rfl
theorem aNil_p2(H:qt)(β o:U):ea .ptr (.ptr β o) H=Y X:=rfl
theorem aNil_p3(H:qt)(c:Z D)(o:U):ea .ptr (.cE c o) H=Y X:=rfl
theorem aNil_p4(H:qt)(β a i o:U):ea .ptr (.bP β a i o) H=Y X:=rfl
theorem aNil_p5(H:qt)(c:Z D):ea .ptr (.pv (.rp c)) H=Y X:=rfl
theorem aNil_s1(H:qt)(e:TypeId)(b:C)(a:U)(es:Z (Z D)):ea (.slice e) (.pv (.sl b a es)) H=Y b:=rfl
theorem aNil_s2(H:qt)(e:TypeId):ea (.slice e) .QZ H=Y X:=rfl
theorem aNil_s3(H:qt)(e:TypeId)(β a off n:U):ea (.slice e) (.row β a off n) H=match H.get β with|some (.row b _ es)=>if a=es.length then Y b else J|_=>J:=rfl
theorem aNil_m1(H:qt)(k e:TypeId):ea (.map k e) (.pv .pC) H=Y V:=rfl
theorem aNil_m2(H:qt)(k e:TypeId)(β:U):ea (.map k e) (.map β) H=Y X:=rfl
theorem aNil_f1(H:qt):ea .func (.pv .iw) H=Y V:=rfl
theorem aNil_f2(H:qt)(f:FuncId):ea .func (.pv (.fn f)) H=Y X:=rfl
theorem aNil_f3(H:qt)(f:FuncId)(a b:Z AV):ea .func (.XK f a b) H=Y X:=rfl
def oE{α:Type}(k:U)(e:α->Z D)(l:Z (Sl α)):Z D:=l.map λx=> .sl x.nil (K k x.l) (N e x.l)
def so{α:Type}(a:Z U)(k:U)(e:α->Z D)(x:Sl (Sl α)):qD:= .we x.nil a (oE k e x.l) J
section
variable {α:Type} (k:U) (e:α->Z D) (l:Z (Sl α))
theorem oE_len:(oE k e l).length=l.length:=by simp[oE]
theorem oE_nil:oE k e []=[]:=rfl
theorem oE_get{i:R}{x:Sl α}(h:qk l i=Y x):(oE k e l)[i.toNat]? =Y (.sl x.nil (K k x.l) (N e x.l)):=by simp[oE,Zg h]
theorem oE_flat:(N (ro k e) l).flatten=oE k e l:=by induction l with|nil=>rfl|cons x l a=>simp[oE,ro]at a |-; exact a
end
theorem Sp{α:Type}{l r:Z α}{n:R}(h:wo l n=Y r):r.length=n.toNat:=by unfold wo at h;split at h;rename_i hc;cases h;rw[Z.length_take];omega;cases h
theorem S5{α:Type}{e:α->Z D}(a: ∀x,(e x).all D.UQ=V)(l:Z α):ae (N e l)=V:=by simp[ae];intro x _;simpa using a x
theorem szc_or2{α:Type}(k:U)(l:Z α):(l.isEmpty=V\/K k l=k)=True:=by cases l<;>simp[K]
def rJ{α:Type}(d:α):Z (U×α)->U->α
 |[],_=>d
 |(a,x)::r,k=>if a=k then x else rJ d r k
class z7 {β:Type} (o:T β) (Q:outParam (β->Prop)):Prop where
 ok: ∀r,o=Y r->Q r
class Sz (G:GP) (f:FuncId) (fi:outParam FI):Prop where
 h:G.fn f=Y fi
abbrev Jx(x:Func):FI:=⟨x.ntmps,x.results.toList,x.body.get!⟩
theorem CP{G:GP}{f:FuncId}{x:FI}(h:G.fn f=some x:=by kernel_rfl):Sz G f x:=⟨h⟩
abbrev Lp(a b:Z U):sk:=⟨a,b,[],[],[],0⟩
abbrev Lq(a b p:Z U):sk:=⟨a,b,p,[],[],0⟩
def kg:D:= .int .i64 0
def fC:D:= .str []
def rh:D:= .bool X
def vg:D:= .sl V 0 []
def tF:T TI:=Y ⟨1,8,.func,[.iw],X,J⟩
def tS(e:TypeId):T TI:=Y ⟨1,24,.slice e,[.sl V 0 []],X,J⟩
def tP(e:TypeId):T TI:=Y ⟨1,8,.ptr,[.uI],X,Y e⟩
def tT(n b:U)(a:Z (U×U×TypeId))(z:Z D):T TI:=Y ⟨n,b,.struct a,z,V,J⟩
class ye (α:Type) (k:outParam U) (e:outParam (α->Z D)):Prop where
 t:True
instance:ye UInt8 1 WX:=⟨trivial⟩
instance:ye R 1 jf:=⟨trivial⟩
instance:ye C 1 T8:=⟨trivial⟩
instance:ye qa 1 oC:=⟨trivial⟩
instance{α:Type}{k:U}{e:α->Z D}[ye α k e]:ye (Sl α) 1 (ro k e):=⟨trivial⟩
instance{α:Type}{k:U}{e:α->Z D}[ye α k e]:ye (α×α) (k+k) (arr2E e):=⟨trivial⟩
section
variable {α β γ:Type} {r:β} {P:Prop} {a b:C} {p q:T β}
theorem iA(f:a=V->(if b=V then p else q)=Y r->P)(g:a=X->q=Y r->P)(h:(if (a&&b)=V then p else q)=Y r):P:=by cases a;exact g rfl (by simpa using h);exact f rfl (by simpa using h)
theorem iO(f:a=V->p=Y r->P)(g:a=X->(if b=V then p else q)=Y r->P)(h:(if (a || b)=V then p else q)=Y r):P:=by cases a;exact g rfl (by simpa using h);exact f rfl (by simpa using h)
theorem bsS{o:T (α⊕γ)}{k:α⊕γ->T β}(f: ∀y,o=Y (.inl y)->k (.inl y)=Y r->P)(g: ∀y,o=Y (.inr y)->k (.inr y)=Y r->P)(h:o>>=k=Y r):P:=by obtain⟨x,d,c⟩:=J!.1 h;cases x with|inl y=>exact f y d c|inr y=>exact g y d c
theorem bsS3{δ:Type}{o:T (α⊕(γ⊕δ))}{k:α⊕(γ⊕δ)->T β}(f: ∀y,o=Y (.inl y)->k (.inl y)=Y r->P)(g: ∀y,o=Y (.inr (.inl y))->k (.inr (.inl y))=Y r->P)(c : ∀y,o=Y (.inr (.inr y))->k (.inr (.inr y))=Y r->P)(h:o>>=k=Y r):P:=
 bsS f (λy=>by cases y with|inl y=>exact g y|inr y=>exact c y) h
variable {i lo hi:R}
theorem bsS4{δ ε:Type}{o:T (α⊕(γ⊕(δ⊕ε)))}{k:α⊕(γ⊕(δ⊕ε))->T β}(f: ∀y,o=Y (.inl y)->k (.inl y)=Y r->P)(g: ∀y,o=Y (.inr (.inl y))->k (.inr (.inl y))=Y r->P)(d : ∀y,o=Y (.inr (.inr (.inl y)))->k (.inr (.inr (.inl y)))=Y r->P)(c : ∀y,o=Y (.inr (.inr (.inr y)))->k (.inr (.inr (.inr y)))=Y r->P)(h:o>>=k=Y r):P:=
 bsS3 f g (λy=>by cases y with|inl y=>exact d y|inr y=>exact c y) h
theorem wgO{l:Z (Sl α)}{k:Sl α->T β}{n:U}{e:α->Z D}[ye α n e](f: ∀x,qk l i=Y x->(∀ d,uh (.pv (.int d i))=Y i.toNat)->l[i.toNat]? =Y x->(N (ro n e) l)[i.toNat]? =Y (ro n e x)->(oE n e l)[i.toNat]? =Y (.sl x.nil (K n x.l) (N e x.l))->(i.toNat<l.length)=True->l.isEmpty=X->(∀ z,K z l=z)->k x=Y r->P)(h:qk l i>>=k=Y r):P:=
 bs (λx c=>f x c (Xj c) (Zg c) (Xi _ c) (oE_get n e l c) (XQ c) (NA c) (Ku c)) h
theorem wgV{l:Sl α}{k:α->T β}{n:U}{e:α->Z D}[ye α n e](f: ∀x,qk l.l i=Y x->(∀ d,uh (.pv (.int d i))=Y i.toNat)->(N e l.l)[i.toNat]? =Y (e x)->(∀ z,(K z l.l=z)=True)->(i.toNat<l.l.length)=True->k x=Y r->P)(h:qk l.l i>>=k=Y r):P:=
 bs (λx c=>f x c (Xj c) (Xi e c) (Ov c) (XQ c)) h
variable {l:Z α}
theorem wg{k:α->T β}{n:U}{e:α->Z D}[ye α n e](f: ∀x,qk l i=Y x->(∀ d,uh (.pv (.int d i))=Y i.toNat)->l[i.toNat]? =Y x->(N e l)[i.toNat]? =Y (e x)->(i.toNat<l.length)=True->l.isEmpty=X->(∀ z,K z l=z)->k x=Y r->P)(h:qk l i>>=k=Y r):P:=
 bs (λx c=>f x c (Xj c) (Zg c) (Xi e c) (XQ c) (NA c) (Ku c)) h
variable {k:Z α->T β}
theorem w2{n:U}{e:α->Z D}[ye α n e](f: ∀x,wz l lo hi=Y x->(∀ d,uh (.pv (.int d lo))=Y lo.toNat)->(∀ d,uh (.pv (.int d hi))=Y hi.toNat)->(lo.toNat<=hi.toNat)=True->(hi.toNat<=l.length)=True->(l.take hi.toNat).drop lo.toNat=x->((N e l).take hi.toNat).drop lo.toNat=N e x->(∀ z,K (K z l) x=K z x)->k x=Y r->P)(h:wz l lo hi>>=k=Y r):P:=
 bs (λx c=>f x c (Ic c) (Ia c) (Ib c) (So c) (KX c) (Re e c) (Su c)) h
theorem wF{n:U}{e:α->Z D}[ye α n e](f: ∀x,nR l lo=Y x->(∀ d,uh (.pv (.int d lo))=Y lo.toNat)->(lo.toNat<=l.length)=True->l.drop lo.toNat=x->(N e l).drop lo.toNat=N e x->(∀ z,K (K z l) x=K z x)->k x=Y r->P)(h:nR l lo>>=k=Y r):P:=
 bs (λx c=>f x c (subF_lo c) (subF_le c) (MN c) (map_subF e c) (szc_subF c)) h
theorem wT{n:U}{e:α->Z D}[ye α n e](f: ∀x,wo l hi=Y x->(∀ d,uh (.pv (.int d hi))=Y hi.toNat)->(hi.toNat<=l.length)=True->l.take hi.toNat=x->(N e l).take hi.toNat=N e x->(∀ z,K (K z l) x=K z x)->x.length=hi.toNat->k x=Y r->P)(h:wo l hi>>=k=Y r):P:=
 bs (λx c=>f x c (subT_hi c) (subT_len c) (MP c) (map_subT e c) (szc_subT c) (Sp c)) h
end
abbrev xT{α β:Type}(f:α->T β)(Q:α->β->Prop):Prop:= ∀p,z7 (f p) (Q p)
theorem gP{α β:Type}{f:α->T β}{Q:α->β->Prop}{F:(α->T β)->α->T β}(a: ∀m:α->β->Prop,(∀ g:α->T β,(∀ x r,g x=Y r->m x r)-> ∀x r,F g x=Y r->m x r)-> ∀x r,f x=Y r->m x r)
  (h: ∀g:α->T β,xT g Q-> ∀p r,F g p=Y r->Q p r):xT f Q:=λp=>⟨a Q (λg i=>h g λp=>⟨i p⟩) p⟩
class VV (α:Type) (f:outParam (α->AV)):Prop where
 t:True
instance:VV R qh:=⟨trivial⟩
instance:VV C zN:=⟨trivial⟩
instance:VV qa qP:=⟨trivial⟩
instance{α:Type}{k:U}{e:α->Z D}[ye α k e]:VV (Sl α) (v_l k e):=⟨trivial⟩
def vv{α:Type}{f:α->AV}[VV α f](x:α):AV:=f x
theorem zV{α:Type}{f:α->AV}[VV α f](x:α):vv x=f x:=rfl
def bb{α:Type}{k:U}{e:α->Z D}[ye α k e](x:α):qD:=b_x (e x)
theorem zR{α:Type}{k:U}{e:α->Z D}[ye α k e](x:α):bb x=b_x (e x):=rfl
def br{α:Type}{k:U}{e:α->Z D}[ye α k e](l:Z α):qD:=b_r k e l
theorem zT{α:Type}{k:U}{e:α->Z D}[ye α k e](l:Z α):br l=b_r k e l:=rfl
def bm{α:Type}{k:U}{e:α->Z D}[ye α k e](l:Z α):qD:= .row X k (N e l)
theorem zS{α:Type}{k:U}{e:α->Z D}[ye α k e](l:Z α):bm l= .row X k (N e l):=rfl
def nz{α:Type}(b:C)(k:U)(l:Z α):U:=match b with|true=>K k l|false=>k
theorem nz_t{α:Type}(k:U)(l:Z α):nz V k l=K k l:=rfl
theorem nz_f{α:Type}(k:U)(l:Z α):nz X k l=k:=rfl
theorem nz_or{α β:Type}(b:C)(k:U)(e:α->β)(l:Z α):(nz b k l=k\/N e l=[])=True:=by cases b<;>cases l<;>simp[nz,K]
def bN{α:Type}{k:U}{e:α->Z D}[ye α k e](x:Sl α):qD:= .row x.nil (nz x.nil k x.l) (N e x.l)
theorem bN_eq{α:Type}{k:U}{e:α->Z D}[ye α k e](x:Sl α):bN x= .row x.nil (nz x.nil k x.l) (N e x.l):=rfl
theorem natOf_in(k:IntKind){n:R}(h:0<=n):uh (.pv (.int k n))=Y n.toNat:=nat_made k h
section
variable {α β:Type} (e:α->β) (l r:Z α) (k:U)
theorem FV{l r:Z α}(h:(l.isEmpty&&r.isEmpty)=X)(k:U):K k (l++r)=k:=app_szc h k
theorem IL:s7 []=Y []:=rfl
theorem IM(n:R)(r:Z (Z D)):s7 ([.int .u8 n]::r)=(s7 r).map λl=>u8 n::l:=by rw[s7];cases s7 r<;>rfl
theorem scal_int(l:Z R):ae (N jf l)=V:=S5 (λ_=>rfl) l
theorem scal_rep(n:U)(k:IntKind)(z:R):ae (f? n [I k z])=V:=by unfold ae;rw[K!];intro x a;rw[(Z.mem_replicate.1 a).2];rfl
theorem map_oE{α:Type}(k:U)(e:α->Z D)(l:Z (Sl α)):(oE k e l).map (λp=>[p])=N (ro k e) l:=by unfold oE ro;rw[Z.map_map];rfl
structure Fit (l:Z α) (n:U):Prop where
 h:l.length<=n
theorem take_ge{n:U}{l:Z α}(h:Fit l n):l.take n=l:=Z.take_of_length_le h.h
theorem szc_apC(a t:Z α)(c:α)(k:U):K k (a++c::t)=k:=by cases a<;>rfl
theorem szc_apL(a t b:Z α)(c:α)(k:U):K k (a++c::t++b)=k:=by cases a<;>rfl
theorem q0d(l:Z R)(i:U)(k:IntKind)(z:R):ae ((N jf l).set i [I k z])=V:=by unfold ae;rw[K!];intro x b;rcases Z.mem_or_eq_of_mem_set b with b|rfl;obtain⟨a,_,rfl⟩:=Z.mem_map.1 b;rfl;rfl
theorem szc_repI(k n:U)(a:IntKind)(z:R):K k (f? n [I a z])=K k (f? n z):=by cases n<;>rfl
theorem Cv(l:qa)(i:U)(c:UInt8):s7 ((N WX l).set i [I .u8 (c.toNat:R)])=Y (l.set i c):=by have:[I .u8 (c.toNat:R)]=WX c:=rfl;rw[this,<- c_,X7]
theorem oE_one{α:Type}(k:U)(e:α->Z D)(x:Sl α):oE k e [x]=[B x.nil (K k x.l) (N e x.l)]:=rfl
theorem oE_setR{α:Type}(k:U)(e:α->Z D)(l:Z (Sl α))(n:U)(x:Sl α):oE k e (l.set n x)=(oE k e l).set n (B x.nil (K k x.l) (N e x.l)):=by simp[oE,c_]
theorem szcN{α:Type}{l:Z α}(h:l.isEmpty=X)(k:U):K k l=k:=by cases l<;>simp_all [K]
theorem oE_take{α:Type}(k:U)(e:α->Z D)(l:Z (Sl α))(n:U):(oE k e l).take n=oE k e (l.take n):=by simp[oE]
theorem rG2{α:Type}(k:U)(e:α->Z D)(l:Z α)(a:TI)(β nx:U)(c d:Z D)(f:k=a.size)(b:ql (l.length+2) a.bytes=V):
  lO a β l.length l.length [c,d] nx (Y (.row l.isEmpty (K k l) (N e l)))=Y (.row β (N e l++[c,d]).length 0 (N e l++[c,d]).length,[(β,.row X k (N e l++[c,d]))],nx):=S1 a β k nx e l c [d] f b
theorem rZ(a:TI)(β nx:U)(src:Z (Z D)):lO a β 0 0 src nx (Y (.row V 0 []))=wd a (.row β 0 0 0) src β nx nx:=rfl
theorem fE0(a:TI)(v:AV)(b nx iy:U):wd a v [] b nx iy=Y (v,[],nx):=rfl
theorem set_id{l:Z α}{i:U}{x:α}(h:l[i]? =Y x):l.set i x=l:=by apply Z.ext_getElem?;intro j;rw[Z.getElem?_set];split;rename_i a;subst a;split;exact h.symm;rename_i h3;rw[Z.getElem?_eq_none o?]at h;cases h;rfl
theorem oS1{α:Type}{k i n:U}{e:α->Z D}{l:Z (Sl α)}{m:Z (Z D)}(h:(oE k e l)[i]? =Y (B X n m)):(oE k e l).set i (B X n m)=oE k e l:=set_id h
theorem oE_end{α:Type}(k:U)(e:α->Z D)(l:Z (Sl α))(c d:D)(t:Z D):(oE k e l++c::t).set l.length d=oE k e l++d::t:=by
 have:l.length=(oE k e l).length:=by simp[oE]
 rw[this];simp
theorem oE_app{α:Type}(k:U)(e:α->Z D)(l r:Z (Sl α)):oE k e (l++r)=oE k e l++oE k e r:=by simp[oE]
end
end Go.Gm
namespace Go.Proofs.YtadahlbndbmdeaaGreat
open Go Go.Gm
def ownL:Z (U×C):=[(12,V),(13,V),(29,V),(30,V),(50,V),(55,V),(58,V),(78,V),(91,V),(92,V),(93,V),(124,V),(138,V),(139,V),(177,V),(180,V),(181,V),(201,V),(206,V),(208,V),(209,V),(229,V),(230,V),(257,V),(272,V)]
def kpL:Z (U×C):=[(12,V),(18,V),(23,V),(29,V),(48,V),(77,V),(81,V),(100,V),(145,V),(177,V),(206,V),(230,V),(272,V),(300,V)]
def prL:Z (U×Z (U×Z U)):=[(27,[(15,[4])]),(374,[(7,[11])])]
def fzL:Z (U×C):=[(417,V)]
def mfL:Z (U×C):=[(178,V),(207,V)]
def cmL:Z (U×Z (U×Z Iq)):=[(18,[(3,[.GM 4])]),(19,[(27,[.cut 5000]),(43,[.cut 6000])]),(23,[(4,[.GM 2003])]),(24,[(2,[.GM 3000])]),(100,[(3,[.prom 4003 [1,1]]),(11,[.pack 4003]),(999999,[.GM 2003])]),(101,[(7,[.cut 3000]),(9,[.cut 4000])]),(103,[(23,[.cut 3000]),(999999,[.cut 3000])]),(119,[(5,[.pack 4000])]),(120,[(0,[.GM 0])]),(126,[(3,[.prom 4011 [1]]),(11,[.pack 4011]),(30,[.GM 4011])]),(145,[(3,[.prom 3 [1]]),(11,[.pack 3])]),(149,[(48,[.focus 4000 [20]]),(49,[.pack 4000])]),(151,[(12,[.focus 4000 [1,2]]),(13,[.pack 4000]),(26,[.focus 4000 [1,2]]),(27,[.pack 4000]),(28,[.focus 4000 [1,2]]),(29,[.pack 4000]),(40,[.focus 4000 [1,2]]),(41,[.pack 4000])]),(184,[(2,[.focus 4000 [5000]]),(999999,[.pack 4000])]),(185,[(2,[.focus 4000 [2]]),(999999,[.pack 4000])]),(206,[(9,[.prom 19 [1]]),(52,[.focus 1 [21]]),(53,[.pack 1]),(65,[.pack 19]),(999999,[.GM 14])]),(207,[(0,[.GM 1])])]
def spL:Z (U×Z (U×sk)):=[(3,[(0,Lp [5,6,7] [4,5,6]),(2,Lp [10,12,13,14] [10,12])]),(4,[(0,Lp [1,2,7] [6]),(2,Lp [1,2,7,8] [1,2,7])]),(5,[(0,Lp [1,2,7] [6])]),(7,[(0,⟨[0,2,3,5],[2,3],[],[(3,4),(3,5)],[],2⟩)]),(8,[(0,Lq [0,1,5,6] [5] [5])]),(9,[(0,Lp [2,9,10,11] [4])]),(10,[(0,Lq [0,7,8,19,20,21] [0,7,8] [7])]),(13,[(0,⟨[1,5,8,9,10],[5],[5],[],[1],0⟩)]),(14,[(0,Lp [0,1,5] [4])]),(15,[(0,Lp [0,1,5] [4])]),(17,[(0,Lp [3,6,42,43,44] [2]),(2,Lp [3,6,7,8,9,42,43,44,54,55,56] [2,3,8,42,43,44])]),(18,[(0,Lp [0,4,5] [2,3,4])]),(21,[(0,Lp [2,3,11,12,13] [4,5]),(2,Lp [2,3,6,11,12,13,19,20,21] [2,3,4,5,11,12,13])]),(22,[(0,Lp [0,1,7,8,9] [0,1,4])]),(23,[(0,⟨[3,14,15,16],[3],[],[(3,2)],[],0⟩)]),(24,[(0,Lp [0,1] [])]),(25,[(0,⟨[0,14,15,16],[],[],[],[2000],0⟩)]),(26,[(0,Lp [0,3] [2]),(2,Lp [0,3,4] [0,2,3]),(4,Lp [0,3,4,44,45,46] [0,2,3,4])]),(27,[(0,Lp [0,2,11,12] []),(2,⟨[0,2,3,4,11,12,34,35,36],[0,3,4,11,12],[],[(4,1),(4,2)],[],0⟩)]),(28,[(0,Lq [0,2,3,9,10,11] [0,2,3] [3])]),(32,[(0,Lp [3,6,7,8] [2,3])]),(34,[(0,Lp [0,1,14,15,16] [0])]),(35,[(0,Lq [4,14,15,16] [4] [4])]),(36,[(0,Lp [0,1,14,15,16] [1,4,5])]),(37,[(0,Lp [0,1,12,13] [4])]),(38,[(0,⟨[2,5,18,19,20],[4],[],[],[18],0⟩)]),(40,[(0,Lq [0,5,10,11,12] [5] [5]),(2,Lq [0,5,10,11,12,17,18,19] [0,5,10,11,12] [5])]),(41,[(0,Lp [0,1,8,9] [0,1,6,7,8])]),(45,[(0,Lp [3,10,11,12] [2])]),(46,[(0,Lq [3,6,7,8] [3] [3])]),(47,[(0,Lp [0,7,8,9] [0])]),(50,[(0,Lp [0,2,3] [])]),(51,[(0,Lp [0,1,5,10,12,13,14] [0,1,5,10,12]),(2,Lp [0,1,5,10,12,91,92,93] [0,10])]),(52,[(0,⟨[1,3,12,13,14],[1,3],[],[],[1],0⟩),(2,Lq [1,3,6] [6] [6])]),(53,[(0,Lp [0,1,2,3,9,10,11,47,48,49] [0,1,2,3,9,10,11]),(2,Lp [0,1,2,3,15,16,17] [8])]),(54,[(0,Lq [1,2,3,7,8,9] [1,2,3] [3])]),(55,[(0,Lp [0,1,2,6,7,8] [0,1,2,6,7]),(2,Lp [0,1,2,6] []),(4,Lp [0,1,2,6,7,8] [0,1,2,6,7])]),(62,[(0,Lp [1,2,5] [1,2,4])]),(65,[(0,Lp [0,3] [2])]),(67,[(0,Lq [0,1,5,6] [5] [5])]),(68,[(0,Lq [0,1,2,7,8] [7] [7]),(2,Lq [14,15,16] [15] [15])]),(69,[(0,Lp [0,1,6] [1,4,5])]),(70,[(0,Lq [0,1,2,10,12,13] [0,12] [12])]),(71,[(0,Lp [0,4,5] [4])]),(72,[(0,Lq [1,2,3,6,8,10,11,12] [3,6,7,10,11] [10,11]),(2,⟨[6,10,11,24,25,26,27],[6,24,25],[],[(25,1)],[],0⟩),(4,⟨[6,10,11,24,25,26,27,28,29,30],[6,10,11,24,25,26,27,29],[],[(29,2)],[],0⟩)]),(76,[(0,Lq [1,2,4,6,7,8,9,10] [2,4,6,7,8,9] [8]),(2,Lq [1,2,4,6,7,8,9,10,11,12] [1,2,4,6,7,8,9,10] [8])]),(80,[(0,⟨[2,3,12,13,14],[2,3],[],[(3,2)],[],0⟩),(2,Lp [2,3,6,12,13,14,23,24] [2,3,6,12,13,14])]),(81,[(0,Lp [7,8] [7])]),(82,[(0,⟨[5,6,12,13,14,34,35,36],[12,14],[],[(14,1),(14,2)],[],0⟩)]),(85,[(0,Lp [1,2,5,12,13,14] [5]),(2,Lp [1,2,5,7,8,12,13,14] [1,2,5,12,13,14])]),(86,[(0,Lp [0,1,7,8] [4])]),(88,[(0,Lp [1,2,3,7,8,9,10] [7,8,9])]),(89,[(0,Lq [1,3,10,12,13,40,41,42] [1,6,7,8,10,12,13] [12]),(2,Lq [1,3,10,12,13,15,16,40,41,42,52,53,54] [1,3,10,12,13,15,16,40,41,42] [16]),(4,Lq [1,3,10,12,15,16,40,41,42,74,75,76] [1,3,10,12,15,40,41,42] [12])]),(90,[(0,Lq [1,2,3,10,11,12] [1,2,3] [3]),(2,Lq [1,2,3,5,6,10,11,12,17,18,19] [1,2,3,5,6,10,11,12] [6])]),(91,[(0,Lp [0,1,2,3,8] []),(2,Lp [0,1,2,3,8,9] [0,1,2,3,8])]),(92,[(0,Lp [0,1,4,10,11] [0,1,10]),(2,Lp [0,10,13] []),(4,Lp [0,2,4,14,15] [0,2,14]),(6,Lp [0,14,17] []),(8,Lp [0,1,2,3,4,18,19,20,21,22] [0,1,2,3,4,18,19,20])]),(93,[(0,Lp [0,1,2,6,7,8] [0,1,2,6,7]),(2,Lp [0,1,2,6] []),(4,Lp [0,1,2,6,7,8] [0,1,2,6,7])]),(95,[(0,Lp [0,1,7,8] [4])]),(98,[(0,Lp [1,3,5] [1,2]),(2,Lp [1,6] [2]),(4,Lp [1,6,7,8] [1,2,6])]),(100,[(0,Lp [1,3,4] [3])]),(101,[(0,Lp [0,1,4] [0,1,4]),(2,Lp [0,4,5,6] [])]),(102,[(0,Lp [0,3] [2]),(2,Lp [0,3,4] [0,2,3]),(4,Lp [0,3,4,5,6] [0,2,3,4])]),(103,[(0,Lp [0,2] []),(2,Lq [0,2,3,4,5] [0,2,3,4] [4])]),(105,[(1,Lp [0,1] [0,1]),(3,Lp [0,1] [1]),(5,Lp [0,1] [0,1]),(7,Lp [0,1] [1])]),(106,[(0,Lq [3,4,5] [4] [4])]),(108,[(0,⟨[0,3,4],[3],[],[],[3],0⟩),(2,Lp [0,3,4,5] [0,3,4,5]),(4,Lq [3,6,7] [6] [6])]),(110,[(0,⟨[0,1,2,8,9],[0,1,2,8,9],[8,9],[],[],2⟩)]),(111,[(0,Lp [0,3,4] [3])]),(113,[(0,Lp [0,1,6] [4,5])]),(114,[(0,Lp [0,2,9,10,16,17] [0,2,9,10,16,17]),(2,Lp [0,2,9,10,16,17] [0,2,9,10,16,17])]),(116,[(0,Lp [0,6,8] [0,6,8])]),(117,[(0,Lp [11,12,13] [11,12]),(2,Lp [15,17,19,20] [15,17,19])]),(118,[(0,Lp [0,3,4,5] [3,4]),(2,Lp [0,3,4,5,6] [0,3,4,5])]),(120,[(0,Lq [1,2,4,6,7,8,9,10] [1,2,4,6,7,9] [9])]),(121,[(0,Lp [0,6,7] [4,5])]),(123,[(0,Lp [0,6,7] [4,5])]),(124,[(0,Lp [0,1,2,6,7,8] [0,1,2,6,7]),(2,Lp [0,1,2,6] []),(4,Lp [0,1,2,6,7,8] [0,1,2,6,7])]),(126,[(0,⟨[1,2,4,5,10,11,19,20,21],[1,2,4,5,10,11],[],[(11,3)],[],0⟩),(2,Lp [10,11,71,72,73] [10,11])]),(127,[(0,⟨[0,2,3,4,6,10,12,13,14,32,33,34],[10,12,13],[13],[(12,2)],[],0⟩)]),(134,[(0,Lp [1,5,12,13,14] [5])]),(137,[(0,Lp [0,2,4,10,11] [0,2,4,10])]),(138,[(0,Lp [0,1,2,3,8] []),(2,Lp [0,1,2,3,8,9] [0,1,2,3,8])]),(139,[(0,Lp [0,1,4,10,11] [0,1,10]),(2,Lp [0,10,13] []),(4,Lp [0,2,4,14,15] [0,2,14]),(6,Lp [0,14,17] []),(8,Lp [0,1,2,3,4,18,19,20,21,22] [0,1,2,3,4,18,19,20])]),(140,[(0,Lp [2,5] [4]),(2,Lp [2,5,6,8] [2,4,5])]),(141,[(0,Lp [1,2,5] [4])]),(142,[(0,Lq [0,1,5,6] [5] [5]),(2,Lq [0,1,5,6,7] [0,1,5,6] [5])]),(143,[(0,Lp [0,1,5] [1,4])]),(144,[(0,Lp [0,1,5] [0])]),(145,[(0,Lq [1,3,4] [3] [3])]),(146,[(0,Lp [1,2,5] [4])]),(147,[(0,⟨[0,3,4],[3],[],[],[3],0⟩),(2,Lp [0,3,4,5] [0,3,4,5])]),(148,[(0,Lp [2,3,6] [4,5]),(2,Lp [2,3,6,7] [2,3,4,5,6])]),(149,[(0,Lp [0,1,2,3,5,10,12,13,14,15] [0,1,2,3,5,10,12,13,14]),(2,Lp [0,1,5,10,12,13,14,16,17] [0,1,5,10,12,13,14]),(4,Lp [0,1,5,10,12,13,14,20] [0,10])]),(150,[(0,⟨[1,3,4],[1,3],[],[],[1],0⟩),(2,Lq [1,3,5] [5] [5]),(4,Lp [1,3,5,6,7,8] [1,3,5,6,7]),(6,Lp [1,3,5,6,7,9] [1,3,5,6])]),(151,[(0,Lp [0,1,2,3,9,10,11] [0,1,2,3,9,10]),(2,Lp [0,1,2,3,9,12,13] [0,1,2,3,9,12]),(4,Lp [0,1,2,3,14,15] [8])]),(153,[(0,Lp [0,1] [1])]),(154,[(0,Lp [0,1] [0,1])]),(160,[(0,⟨[0,3,4],[3],[],[],[3],0⟩),(2,Lp [0,3,4,5] [0,3,4,5])]),(165,[(0,Lq [0,4,7,8] [0,4,7,8] [7]),(2,Lp [0,4,12,14] [0,4,5,6,12,14])]),(166,[(0,⟨[0,1,6,7],[0,1,6,7],[6,7],[],[],2⟩)]),(168,[(0,Lq [0,3,4] [3] [3])]),(169,[(0,Lp [0,3] [2])]),(170,[(0,Lp [0,3] [3])]),(171,[(0,Lp [0,1,5] [5])]),(172,[(0,Lp [0,2,3,4] [2,3])]),(173,[(0,⟨[0,1,2,6],[],[],[(0,3),(0,4),(0,5)],[],0⟩)]),(174,[(0,Lp [0,2,3] [0,2]),(2,Lp [0,2,4] [0]),(4,Lq [0,5,6] [] [5])]),(175,[(0,Lp [0,3] [2]),(2,Lp [0,3,4,5] [0,3,4])]),(176,[(0,⟨[0,1,3,10,11],[8,9,10],[],[(1,0),(1,1)],[],0⟩)]),(177,[(0,Lq [0,1,2,3,5,6,16] [2,6] [2])]),(178,[(0,Lp [0,1,5] [0,1,5])]),(180,[(0,Lp [0,1,2,3,8] []),(2,Lp [0,1,2,3,8,9] [0,1,2,3,8])]),(181,[(0,Lp [0,1,4,10,11] [0,1,10]),(2,Lp [0,10,13] []),(4,Lp [0,2,4,14,15] [0,2,14]),(6,Lp [0,14,17] []),(8,Lp [0,1,2,3,4,18,19,20,21,22] [0,1,2,3,4,18,19,20])]),(184,[(0,Lp [0,2,3,5,8,9] [0,2,3,5,8]),(2,Lp [0,3,5,8,10,11] [0])]),(185,[(0,Lp [0,2,4,6,28,29,30] [0])]),(189,[(0,Lp [0,1,2,3,8,9] [])]),(192,[(0,Lp [0,5,6,7] [2])]),(193,[(0,Lq [11,12,13] [8,9,10,11,12] [12])]),(196,[(1,Lp [6,16,17,18] [6]),(3,Lp [6,31,32,33] [6])]),(198,[(0,Lq [1,2,3,11,12,13] [1,2,3] [3])]),(200,[(0,Lp [0,1,2,3,10] [])]),(201,[(0,Lp [0,2,4,10,11] [0,2,4,10])]),(202,[(0,Lp [0,1,2] [6])]),(204,[(0,Lp [3,4] [2])]),(205,[(0,Lq [0,3,4] [3] [3])]),(206,[(0,⟨[1,6,7,11,14,17,18,19,20,21],[14,18,19],[19],[(18,1)],[],0⟩),(2,⟨[1,6,7,11,14,17,18,19,20,21,22,23,24,25,26],[1,6,7,11,14,17,18,19,20,21,22,23,24],[24],[(22,2)],[],0⟩)]),(207,[(0,Lq [0,1,5,6] [5] [5])]),(208,[(0,Lp [0,1,5] [4])]),(209,[(0,Lp [0,1,2,7] [6]),(2,Lp [0,1,2,7,8] [0,1,2,6,7])]),(210,[(0,Lp [1,2,3,7,8,9] [6,7,8])]),(211,[(0,Lp [1,3,9,10,14,15,16] [1,6,7,8,10,14,15])]),(215,[(0,Lq [0,3,4] [3] [3])]),(216,[(0,Lp [0,1,2,7,8] [0,6])]),(217,[(0,Lp [0,1,7,8] [0,1,7,8])]),(218,[(0,Lp [0,1,7] [0,1,7])]),(220,[(0,Lq [0,1,7] [0,1,7] [7])]),(221,[(0,Lp [2,3,5] [4])]),(224,[(0,Lq [0,1,2,7,8,9] [7] [7])]),(225,[(0,Lp [0,3,4] [2])]),(226,[(0,⟨[0,3,5,8,9,10],[0,3,5,8,9],[],[(9,17)],[],0⟩)]),(227,[(0,Lp [0,1,5] [0,1,4])]),(228,[(0,Lp [0,1,5] [4])]),(229,[(0,Lp [0,1,5] [4])]),(230,[(0,Lq [0,1,2,7] [2] [2])]),(232,[(0,Lp [0,2,4,10,11] [0,2,4,10])]),(235,[(0,Lp [0,1,2,6] []),(2,Lp [0,1,2,6,7] [0,1,2,6])]),(236,[(0,Lp [0,6,7,8,9] [0,6,7,8]),(2,Lp [0,6,7,10] [])]),(237,[(0,Lp [0,1,6,7,8,9] [])]),(239,[(0,Lp [0,6,7] [])]),(240,[(0,Lp [0,1,2,7,8] [6]),(2,Lp [0,1,2,7,8] [0,1,2,7,8]),(4,Lp [0,1,2,7,8,9] [0,1,2,7,8]),(6,Lp [0,1,2,7,8,10] [0,1,2,7,8])]),(242,[(0,Lp [0,1,9,10] [9]),(2,Lp [0,1,9,10] [0,1,9,10]),(4,Lp [0,1,9,10] [0,1,9,10])]),(243,[(0,Lp [0,1,10,11] [0,1,10,11]),(2,Lp [0,1,10,11] [0,1,10,11]),(4,Lp [0,1,10,11] [0,1,11]),(6,Lp [0,1,10,11] [0,1,10,11]),(8,Lp [0,1,10,11] [0,1,10,11])]),(246,[(0,Lp [1,2,31,32,33] [1,6,7])]),(249,[(0,Lp [0,1,4] [4,5])]),(255,[(0,Lp [0,1,5,6] [5])]),(257,[(0,Lp [0,1,2,3,10] [])]),(258,[(0,Lq [1,3,4] [3] [3]),(2,Lq [1,3,4,5,6] [1,3,4] [3])]),(259,[(0,Lp [0,1,5,7,8] [0,1,5,7]),(2,Lp [0,1,5,7,9,10] [9])]),(260,[(0,Lp [0,1,3,6,9,10,11] [0,1,3,6,9,10]),(2,Lp [0,1,3,6,9,10,12] [9])]),(261,[(0,Lp [1,3,7,8] [7])]),(263,[(0,Lp [0,1,7,8] [0])]),(265,[(0,Lq [4,11,12,13] [8,9,10,11,12] [12])]),(267,[(0,Lq [1,3,5,7,8] [3,7] [7])]),(268,[(0,Lq [0,3,4,5] [3] [3])]),(269,[(0,Lq [0,1,4,6] [4,5] [6]),(2,Lq [0,1,4,6,7] [0,1,4,5,6,7] [7])]),(270,[(1,Lp [0,4,8,10,11] [4,5,6])]),(273,[(0,Lp [2,3,5] [2,3,4]),(2,Lp [2,3,6] [4])]),(275,[(0,Lp [0,1,5] [4])]),(277,[(0,Lp [0,1,2,3,10] [])]),(278,[(0,Lp [0,2,3,8] [])]),(287,[(0,Lq [0,3,4] [3] [3])]),(288,[(0,Lq [0,3,4] [3] [3])]),(289,[(0,⟨[1,4,5,22,23,24],[1,4,5],[],[(5,8)],[],0⟩)]),(290,[(0,Lp [7,8] [7])]),(292,[(0,Lp [0,1,6,7,8] [0,1,6,7])]),(299,[(0,Lp [0,3] [2])]),(301,[(0,Lp [0,2,4,6] [6,7])]),(302,[(0,Lp [0,1,5] [4])]),(304,[(0,Lp [0,1,5,6] [5])]),(311,[(0,Lq [0,1,2,9] [0,1,9] [9])]),(315,[(0,Lp [0,5,6,7] [2])]),(319,[(0,Lp [0,1] [1])]),(320,[(0,Lp [0,4,5] [])]),(321,[(1,Lp [0,2,3,29,30,31] [8])]),(324,[(0,Lp [1,3,4] [3])]),(325,[(0,Lp [1,3,4] [1,3])]),(326,[(0,Lp [1,3,4] [1,2,3]),(3,Lp [1,3,5] [1,2,3]),(5,Lp [1,3,6] [1,2,3])]),(327,[(0,Lq [0,3,4] [3] [3])]),(328,[(0,Lq [0,2,4,6,8,9] [0,2,4,6,8] [8])]),(329,[(1,Lp [6,7] [6]),(3,Lp [6,8] [6]),(5,Lp [1,9,10,11] [10])]),(332,[(0,Lq [0,1,5,6] [5] [5])]),(346,[(0,Lp [0,3] [2])]),(348,[(0,Lp [1,3,4] [3])]),(349,[(1,Lp [0,1,2,3,12,13,14] [0,2,3,12]),(3,Lp [0,1,2,3,15,16] [8,9,10])]),(352,[(0,Lq [0,3,4] [3] [3])]),(353,[(0,Lq [0,2,4,5] [2,3,4,5] [5])]),(355,[(0,Lp [0,4,5] [4,5])]),(356,[(0,Lp [0,1,7,8] [4])]),(361,[(0,Lp [3,8,9,10] [3])]),(368,[(0,⟨[0,3,4],[3],[],[],[3],0⟩),(2,Lp [0,3,4,5,6] [0,3,4,5,6]),(4,Lq [3,7,8] [7] [7])]),(369,[(0,Lp [3,4] [3])]),(372,[(0,Lp [1,7,8,9] [4])]),(373,[(0,Lp [3,8,9,10] [3])]),(374,[(0,Lp [0,1,2,11,12] [0,1,2,11])]),(379,[(0,Lp [0,1,5] [4])]),(380,[(0,Lp [3,4] [3])])]
noncomputable def G:GP:=gpOf Tryz.prog (λf=>rJ {} (rJ [] spL f)) (rJ X ownL) (rJ X kpL) (λf=>rJ [] (rJ [] prL f)) (rJ X fzL) (rJ X mfL) (λf=>rJ [] (rJ [] cmL f))
theorem tbA:(∀ k,G.owned k=rJ X ownL k)/\(∀ k,G.dP k=rJ X kpL k)/\(∀ k i,G.pre k i=rJ [] (rJ [] prL k) i)/\(∀ k,G.GM k=rJ X fzL k)/\(∀ k,G.mrf k=rJ X mfL k)/\(∀ k i,G.spec k i=rJ {} (rJ [] spL k) i)/\ ∀k i,G.cmd k i=rJ [] (rJ [] cmL k) i:=⟨λ_=>rfl,λ_=>rfl,λ_ _=>rfl,λ_=>rfl,λ_=>rfl,λ_ _=>rfl,λ_ _=>rfl⟩
theorem tiA0:G.ti 2=Y ⟨1,8,.int .i64,[.int .i64 0],X,J⟩/\G.ti 3=Y ⟨1,8,.int .i64,[.int .i64 0],X,J⟩/\G.ti 4=Y ⟨1,1,.bool,[.bool X],X,J⟩/\G.ti 5=Y ⟨1,1,.int .u8,[.int .u8 0],X,J⟩/\G.ti 9=Y ⟨1,16,.string,[.str []],X,J⟩/\G.ti 22=tS 52/\G.ti 23=tS 47/\G.ti 27=tS 78/\G.ti 28=tS 36/\G.ti 29=tT 3 64 [(0,1,9),(1,1,27),(2,1,28)] [fC,vg,vg]/\G.ti 30=tT 3 64 [(0,1,9),(1,1,27),(2,1,28)] [fC,vg,vg]/\G.ti 34=tS 93/\G.ti 35=tT 2 32 [(0,1,3),(1,1,34)] [kg,vg]/\G.ti 36=tT 2 32 [(0,1,3),(1,1,34)] [kg,vg]/\G.ti 37=Y ⟨1,8,.int .i64,[.int .i64 0],X,J⟩/\G.ti 44=tT 2 16 [(0,1,3),(1,1,3)] [kg,kg]/\G.ti 45=tT 2 16 [(0,1,3),(1,1,3)] [kg,kg]/\G.ti 46=tT 3 32 [(0,2,45),(2,1,9)] [kg,kg,fC]/\G.ti 47=tT 3 32 [(0,2,45),(2,1,9)] [kg,kg,fC]/\G.ti 51=tT 7 104 [(0,1,3),(1,1,9),(2,1,9),(3,1,3),(4,1,4),(5,1,23),(6,1,27)] [kg,fC,fC,kg,rh,vg,vg]/\G.ti 52=tT 7 104 [(0,1,3),(1,1,9),(2,1,9),(3,1,3),(4,1,4),(5,1,23),(6,1,27)] [kg,fC,fC,kg,rh,vg,vg]/\G.ti 55=tP 62/\G.ti 59=tS 103/\G.ti 60=tS 30/\G.ti 61=tT 6 136 [(0,3,30),(3,1,59),(4,1,60),(5,1,60)] [fC,vg,vg,vg,vg,vg]/\G.ti 62=tT 6 136 [(0,3,30),(3,1,59),(4,1,60),(5,1,60)] [fC,vg,vg,vg,vg,vg]/\G.ti 67=tS 5/\G.ti 68=tP 114/\G.ti 76=tF/\G.ti 77=tT 2 16 [(0,1,3),(1,1,3)] [kg,kg]/\G.ti 78=tT 2 16 [(0,1,3),(1,1,3)] [kg,kg]/\G.ti 81=tS 9/\G.ti 82=tS 348/\G.ti 83=tS 85/\G.ti 84=tT 8 104 [(0,1,3),(1,1,9),(2,1,4),(3,1,82),(4,1,3),(5,1,3),(6,1,4),(7,1,83)] [kg,fC,rh,vg,kg,kg,rh,vg]/\G.ti 85=tT 8 104 [(0,1,3),(1,1,9),(2,1,4),(3,1,82),(4,1,3),(5,1,3),(6,1,4),(7,1,83)] [kg,fC,rh,vg,kg,kg,rh,vg]/\G.ti 86=tS 222/\G.ti 87=tT 11 136 [(0,8,85),(8,1,86),(9,1,4),(10,1,4)] [kg,fC,rh,vg,kg,kg,rh,vg,vg,rh,rh]/\G.ti 88=tT 11 136 [(0,8,85),(8,1,86),(9,1,4),(10,1,4)] [kg,fC,rh,vg,kg,kg,rh,vg,vg,rh,rh]/\G.ti 89=tT 18 200 [(0,2,45),(2,1,3),(3,1,3),(4,1,4),(5,1,4),(6,11,88),(17,1,81)] [kg,kg,kg,kg,rh,rh,kg,fC,rh,vg,kg,kg,rh,vg,vg,rh,rh,vg]:=by repeat' (first|apply A|kernel_rfl)
theorem tiA1:G.ti 90=tT 18 200 [(0,2,45),(2,1,3),(3,1,3),(4,1,4),(5,1,4),(6,11,88),(17,1,81)] [kg,kg,kg,kg,rh,rh,kg,fC,rh,vg,kg,kg,rh,vg,vg,rh,rh,vg]/\G.ti 91=tS 90/\G.ti 92=tT 3 40 [(0,2,45),(2,1,91)] [kg,kg,vg]/\G.ti 93=tT 3 40 [(0,2,45),(2,1,91)] [kg,kg,vg]/\G.ti 96=tS 45/\G.ti 102=tT 2 32 [(0,1,9),(1,1,9)] [fC,fC]/\G.ti 103=tT 2 32 [(0,1,9),(1,1,9)] [fC,fC]/\G.ti 106=Y ⟨1,8,.int .u64,[.int .u64 0],X,J⟩/\G.ti 112=tS 118/\G.ti 113=tT 3 64 [(0,1,9),(1,1,27),(2,1,112)] [fC,vg,vg]/\G.ti 114=tT 3 64 [(0,1,9),(1,1,27),(2,1,112)] [fC,vg,vg]/\G.ti 116=tS 124/\G.ti 117=tT 3 56 [(0,2,36),(2,1,116)] [kg,vg,vg]/\G.ti 118=tT 3 56 [(0,2,36),(2,1,116)] [kg,vg,vg]/\G.ti 121=tS 3/\G.ti 124=tS 164/\G.ti 127=tF/\G.ti 131=tF/\G.ti 132=Y ⟨1,8,.map 3 3,[.pC],X,J⟩/\G.ti 135=tF/\G.ti 142=tS 187/\G.ti 150=tF/\G.ti 152=tS 154/\G.ti 154=Y ⟨2,16,.array 2 3,[.int .i64 0,.int .i64 0],X,J⟩/\G.ti 157=tF/\G.ti 158=tF/\G.ti 162=tS 4/\G.ti 163=tT 2 16 [(0,1,3),(1,1,4)] [kg,rh]/\G.ti 164=tT 2 16 [(0,1,3),(1,1,4)] [kg,rh]/\G.ti 176=tP 180/\G.ti 178=tS 207/\G.ti 179=tT 4 88 [(0,3,30),(3,1,178)] [fC,vg,vg,vg]/\G.ti 180=tT 4 88 [(0,3,30),(3,1,178)] [fC,vg,vg,vg]/\G.ti 183=tP 185/\G.ti 184=tT 3 64 [(0,1,9),(1,1,142),(2,1,121)] [fC,vg,vg]/\G.ti 185=tT 3 64 [(0,1,9),(1,1,142),(2,1,121)] [fC,vg,vg]/\G.ti 186=tT 18 224 [(0,1,3),(1,1,9),(2,1,3),(3,1,4),(4,1,4),(5,11,88),(16,1,81),(17,1,142)] [kg,fC,kg,rh,rh,kg,fC,rh,vg,kg,kg,rh,vg,vg,rh,rh,vg,vg]/\G.ti 187=tT 18 224 [(0,1,3),(1,1,9),(2,1,3),(3,1,4),(4,1,4),(5,11,88),(16,1,81),(17,1,142)] [kg,fC,kg,rh,rh,kg,fC,rh,vg,kg,kg,rh,vg,vg,rh,rh,vg,vg]/\G.ti 196=tS 91/\G.ti 207=tS 121:=by repeat' (first|apply A|kernel_rfl)
theorem tiA2:G.ti 208=tT 6 72 [(0,3,47),(3,1,207),(4,1,3),(5,1,3)] [kg,kg,fC,vg,kg,kg]/\G.ti 209=tT 6 72 [(0,3,47),(3,1,207),(4,1,3),(5,1,3)] [kg,kg,fC,vg,kg,kg]/\G.ti 215=tS 219/\G.ti 218=tT 3 40 [(0,2,45),(2,1,96)] [kg,kg,vg]/\G.ti 219=tT 3 40 [(0,2,45),(2,1,96)] [kg,kg,vg]/\G.ti 221=tT 5 56 [(0,1,3),(1,1,3),(2,1,3),(3,1,9),(4,1,9)] [kg,kg,kg,fC,fC]/\G.ti 222=tT 5 56 [(0,1,3),(1,1,3),(2,1,3),(3,1,9),(4,1,9)] [kg,kg,kg,fC,fC]/\G.ti 246=tT 4 32 [(0,1,3),(1,1,3),(2,1,3),(3,1,3)] [kg,kg,kg,kg]/\G.ti 247=tT 4 32 [(0,1,3),(1,1,3),(2,1,3),(3,1,3)] [kg,kg,kg,kg]/\G.ti 249=tP 252/\G.ti 250=tS 255/\G.ti 251=tT 6 128 [(0,1,59),(1,1,9),(2,1,9),(3,1,250),(4,1,121),(5,1,81)] [vg,fC,fC,vg,vg,vg]/\G.ti 252=tT 6 128 [(0,1,59),(1,1,9),(2,1,9),(3,1,250),(4,1,121),(5,1,81)] [vg,fC,fC,vg,vg,vg]/\G.ti 254=tT 20 216 [(0,1,3),(1,1,9),(2,1,3),(3,1,4),(4,1,4),(5,1,4),(6,11,88),(17,1,81),(18,1,3),(19,1,3)] [kg,fC,kg,rh,rh,rh,kg,fC,rh,vg,kg,kg,rh,vg,vg,rh,rh,vg,kg,kg]/\G.ti 255=tT 20 216 [(0,1,3),(1,1,9),(2,1,3),(3,1,4),(4,1,4),(5,1,4),(6,11,88),(17,1,81),(18,1,3),(19,1,3)] [kg,fC,kg,rh,rh,rh,kg,fC,rh,vg,kg,kg,rh,vg,vg,rh,rh,vg,kg,kg]/\G.ti 256=tP 258/\G.ti 257=tT 2 48 [(0,1,121),(1,1,81)] [vg,vg]/\G.ti 258=tT 2 48 [(0,1,121),(1,1,81)] [vg,vg]/\G.ti 266=Y ⟨1,4,.int .u32,[.int .u32 0],X,J⟩/\G.ti 269=Y ⟨1,8,.int .u64,[.int .u64 0],X,J⟩/\G.ti 274=tP 209/\G.ti 279=tF/\G.ti 284=tP 286/\G.ti 285=tT 2 32 [(0,1,284),(1,1,67)] [.uI,vg]/\G.ti 286=tT 2 32 [(0,1,284),(1,1,67)] [.uI,vg]/\G.ti 287=Y ⟨1,16,.other,[.Qf],X,J⟩/\G.ti 288=Y ⟨1,16,.other,[.Qf],X,J⟩/\G.ti 321=Y ⟨1,8,.int .i64,[.int .i64 0],X,J⟩/\G.ti 331=tP 337/\G.ti 333=tS 335/\G.ti 334=tT 11 144 [(0,8,85),(8,1,333),(9,1,3),(10,1,3)] [kg,fC,rh,vg,kg,kg,rh,vg,vg,kg,kg]/\G.ti 335=tT 11 144 [(0,8,85),(8,1,333),(9,1,3),(10,1,3)] [kg,fC,rh,vg,kg,kg,rh,vg,vg,kg,kg]/\G.ti 336=tT 17 240 [(0,11,335),(11,1,4),(12,1,81),(13,1,121),(14,1,96),(15,1,3),(16,1,4)] [kg,fC,rh,vg,kg,kg,rh,vg,vg,kg,kg,rh,vg,vg,vg,kg,rh]/\G.ti 337=tT 17 240 [(0,11,335),(11,1,4),(12,1,81),(13,1,121),(14,1,96),(15,1,3),(16,1,4)] [kg,fC,rh,vg,kg,kg,rh,vg,vg,kg,kg,rh,vg,vg,vg,kg,rh]/\G.ti 342=tF/\G.ti 345=tP 5/\G.ti 347=tT 2 32 [(0,1,9),(1,1,9)] [fC,fC]/\G.ti 348=tT 2 32 [(0,1,9),(1,1,9)] [fC,fC]/\G.ti 349=tS 386/\G.ti 356=tS 359:=by repeat' (first|apply A|kernel_rfl)
theorem tiA3:G.ti 359=tT 3 40 [(0,2,45),(2,1,96)] [kg,kg,vg]/\G.ti 363=tP 366/\G.ti 365=tT 2 32 [(0,1,81),(1,1,3)] [vg,kg]/\G.ti 366=tT 2 32 [(0,1,81),(1,1,3)] [vg,kg]/\G.ti 373=Y ⟨1,8,.int .u64,[.int .u64 0],X,J⟩/\G.ti 377=tP 3/\G.ti 385=tT 3 24 [(0,2,45),(2,1,3)] [kg,kg,kg]/\G.ti 386=tT 3 24 [(0,2,45),(2,1,3)] [kg,kg,kg]/\G.ti 388=tP 391/\G.ti 390=tT 5 72 [(0,1,81),(1,1,121),(2,1,4),(3,1,3),(4,1,4)] [vg,vg,rh,kg,rh]/\G.ti 391=tT 5 72 [(0,1,81),(1,1,121),(2,1,4),(3,1,3),(4,1,4)] [vg,vg,rh,kg,rh]/\G.ti 398=tP 373/\G.ti 415=tP 417/\G.ti 416=tT 13 144 [(0,1,3),(1,8,85),(9,1,3),(10,1,3),(11,1,3),(12,1,415)] [kg,kg,fC,rh,vg,kg,kg,rh,vg,kg,kg,kg,.uI]/\G.ti 417=tT 13 144 [(0,1,3),(1,8,85),(9,1,3),(10,1,3),(11,1,3),(12,1,415)] [kg,kg,fC,rh,vg,kg,kg,rh,vg,kg,kg,kg,.uI]:=by repeat' (first|apply A|kernel_rfl)
instance fn30:Sz G 30 (Jx Tryz.f30):=CP
instance fn50:Sz G 50 (Jx Tryz.f50):=CP
instance fn55:Sz G 55 (Jx Tryz.f55):=CP
instance fn58:Sz G 58 (Jx Tryz.f58):=CP
instance fn78:Sz G 78 (Jx Tryz.f78):=CP
instance Ol:Sz G 91 (Jx Tryz.f91):=CP
instance Ty:Sz G 93 (Jx Tryz.f93):=CP
instance fn124:Sz G 124 (Jx Tryz.f124):=CP
instance GB:Sz G 138 (Jx Tryz.f138):=CP
instance sq:Sz G 139 (Jx Tryz.f139):=CP
instance fn159:Sz G 159 (Jx Tryz.f159):=CP
instance U1:Sz G 177 (Jx Tryz.f177):=CP
instance GC:Sz G 180 (Jx Tryz.f180):=CP
instance Au:Sz G 201 (Jx Tryz.f201):=CP
instance fn257:Sz G 257 (Jx Tryz.f257):=CP
end Go.Proofs.YtadahlbndbmdeaaGreat
namespace Go.Proofs.YtadahlbndbmdeaaGreat
open Go Go.Gm Go.RowKit Go.Maps Go.Sort Go.Shelf
def B0:Go.Shelf.Ren:=⟨λ|7=>84|10=>130|n=>n,λ|23=>132|26=>3|27=>157|28=>158|33=>127|n=>n,λn=>n⟩
theorem keysA:SlLaysZI.n7 Tryz.prog B0 where
 mixed:=k?
 f7:=⟨Tryz.f84.name,k?,Tryz.func84.trans (M Y k?)⟩
 f10:=⟨Tryz.f130.name,k?,Tryz.func130.trans (M Y k?)⟩
 t0:=Tryz.underlying0
 a0:=Tryz.isAgg0
 z0:=Tryz.sizeOf0
 v0:=Tryz.zeroValue0
 t4:=Tryz.underlying4
 a4:=Tryz.isAgg4
 z4:=Tryz.sizeOf4
 v4:=Tryz.zeroValue4
 t23:=Tryz.underlying132
 a23:=Tryz.isAgg132
 z23:=Tryz.sizeOf132
 v23:=Tryz.zeroValue132
 t26:=Tryz.underlying3
 a26:=Tryz.isAgg3
 z26:=Tryz.sizeOf3
 v26:=Tryz.zeroValue3
 t27:=Tryz.underlying157
 a27:=Tryz.isAgg157
 z27:=Tryz.sizeOf157
 v27:=Tryz.zeroValue157
 t28:=Tryz.underlying158
 a28:=Tryz.isAgg158
 z28:=Tryz.sizeOf158
 v28:=Tryz.zeroValue158
 t33:=Tryz.underlying127
 a33:=Tryz.isAgg127
 z33:=Tryz.sizeOf127
 v33:=Tryz.zeroValue127
def Vp:Go.Shelf.Ren:=⟨λ|6=>83|8=>128|9=>129|11=>188|12=>189|13=>190|14=>235|15=>236|16=>237|17=>238|18=>239|19=>240|20=>241|21=>242|22=>243|23=>244|24=>245|25=>278|26=>279|27=>280|28=>281|29=>282|30=>56|31=>312|n=>n,λ|24=>121|26=>3|28=>158|33=>127|37=>106|39=>321|40=>322|45=>133|48=>266|50=>269|51=>373|55=>377|57=>398|58=>64|n=>n,λn=>n⟩
theorem sortedA:SlLaysZI.n6 Tryz.prog Vp where
 mixed:=k?
 f6:=⟨Tryz.f83.name,k?,Tryz.func83.trans (M Y k?)⟩
 f8:=⟨Tryz.f128.name,k?,Tryz.func128.trans (M Y k?)⟩
 f11:=⟨Tryz.f188.name,k?,Tryz.func188.trans (M Y k?)⟩
 t0:=Tryz.underlying0
 a0:=Tryz.isAgg0
 z0:=Tryz.sizeOf0
 v0:=Tryz.zeroValue0
 t24:=Tryz.underlying121
 a24:=Tryz.isAgg121
 z24:=Tryz.sizeOf121
 v24:=Tryz.zeroValue121
 t26:=Tryz.underlying3
 a26:=Tryz.isAgg3
 z26:=Tryz.sizeOf3
 v26:=Tryz.zeroValue3
 t28:=Tryz.underlying158
 a28:=Tryz.isAgg158
 z28:=Tryz.sizeOf158
 v28:=Tryz.zeroValue158
 i26:=k?
def q0n:Go.Shelf.Ren:=⟨λ|5=>129|7=>189|8=>190|10=>235|11=>236|12=>237|13=>238|14=>239|15=>240|16=>241|17=>242|18=>243|19=>244|20=>245|30=>278|31=>279|32=>280|33=>281|34=>282|35=>56|40=>312|n=>n,λ|22=>121|23=>121|25=>3|32=>106|35=>321|36=>322|41=>133|44=>266|46=>269|53=>373|57=>377|63=>398|n=>n,λn=>n⟩
theorem sortA:SlLaysM.n5 Tryz.prog q0n where
 mixed:=k?
 f5:=⟨Tryz.f129.name,k?,Tryz.func129.trans (M Y k?)⟩
 f7:=⟨Tryz.f189.name,k?,Tryz.func189.trans (M Y k?)⟩
 f8:=Tryz.func190.trans (M Y k?)
 f10:=⟨Tryz.f235.name,k?,Tryz.func235.trans (M Y k?)⟩
 f11:=⟨Tryz.f236.name,k?,Tryz.func236.trans (M Y k?)⟩
 f12:=⟨Tryz.f237.name,k?,Tryz.func237.trans (M Y k?)⟩
 f13:=⟨Tryz.f238.name,k?,Tryz.func238.trans (M Y k?)⟩
 f14:=⟨Tryz.f239.name,k?,Tryz.func239.trans (M Y k?)⟩
 f15:=⟨Tryz.f240.name,k?,Tryz.func240.trans (M Y k?)⟩
 f16:=⟨Tryz.f241.name,k?,Tryz.func241.trans (M Y k?)⟩
 f17:=⟨Tryz.f242.name,k?,Tryz.func242.trans (M Y k?)⟩
 f18:=⟨Tryz.f243.name,k?,Tryz.func243.trans (M Y k?)⟩
 f19:=Tryz.func244.trans (M Y k?)
 f20:=Tryz.func245.trans (M Y k?)
 f30:=⟨Tryz.f278.name,k?,Tryz.func278.trans (M Y k?)⟩
 f31:=Tryz.func279.trans (M Y k?)
 f32:=Tryz.func280.trans (M Y k?)
 f33:=⟨Tryz.f281.name,k?,Tryz.func281.trans (M Y k?)⟩
 f34:=⟨Tryz.f282.name,k?,Tryz.func282.trans (M Y k?)⟩
 f35:=⟨Tryz.f56.name,k?,Tryz.func56.trans (M Y k?)⟩
 f40:=⟨Tryz.f312.name,k?,Tryz.func312.trans (M Y k?)⟩
 t0:=Tryz.underlying0
 a0:=Tryz.isAgg0
 z0:=Tryz.sizeOf0
 v0:=Tryz.zeroValue0
 t3:=Tryz.underlying3
 a3:=Tryz.isAgg3
 z3:=Tryz.sizeOf3
 v3:=Tryz.zeroValue3
 t4:=Tryz.underlying4
 a4:=Tryz.isAgg4
 z4:=Tryz.sizeOf4
 v4:=Tryz.zeroValue4
 t5:=Tryz.underlying5
 a5:=Tryz.isAgg5
 z5:=Tryz.sizeOf5
 v5:=Tryz.zeroValue5
 t9:=Tryz.underlying9
 a9:=Tryz.isAgg9
 z9:=Tryz.sizeOf9
 v9:=Tryz.zeroValue9
 t22:=Tryz.underlying121
 a22:=Tryz.isAgg121
 z22:=Tryz.sizeOf121
 v22:=Tryz.zeroValue121
 t23:=Tryz.underlying121
 a23:=Tryz.isAgg121
 z23:=Tryz.sizeOf121
 v23:=Tryz.zeroValue121
 t25:=Tryz.underlying3
 a25:=Tryz.isAgg3
 z25:=Tryz.sizeOf3
 v25:=Tryz.zeroValue3
 t32:=Tryz.underlying106
 a32:=Tryz.isAgg106
 z32:=Tryz.sizeOf106
 v32:=Tryz.zeroValue106
 t35:=Tryz.underlying321
 a35:=Tryz.isAgg321
 z35:=Tryz.sizeOf321
 v35:=Tryz.zeroValue321
 t36:=Tryz.underlying322
 a36:=Tryz.isAgg322
 z36:=Tryz.sizeOf322
 v36:=Tryz.zeroValue322
 t41:=Tryz.underlying133
 a41:=Tryz.isAgg133
 z41:=Tryz.sizeOf133
 v41:=Tryz.zeroValue133
 t44:=Tryz.underlying266
 a44:=Tryz.isAgg266
 z44:=Tryz.sizeOf266
 v44:=Tryz.zeroValue266
 t46:=Tryz.underlying269
 a46:=Tryz.isAgg269
 z46:=Tryz.sizeOf269
 v46:=Tryz.zeroValue269
 t53:=Tryz.underlying373
 a53:=Tryz.isAgg373
 z53:=Tryz.sizeOf373
 v53:=Tryz.zeroValue373
 t57:=Tryz.underlying377
 a57:=Tryz.isAgg377
 z57:=Tryz.sizeOf377
 v57:=Tryz.zeroValue377
 t63:=Tryz.underlying398
 a63:=Tryz.isAgg398
 z63:=Tryz.sizeOf398
 v63:=Tryz.zeroValue398
 t64:=Tryz.underlying64
 a64:=Tryz.isAgg64
 z64:=Tryz.sizeOf64
 v64:=Tryz.zeroValue64
theorem sortsA(m:U):AnyZI.SortsIn Tryz.prog Vp Fence.wide m:=
 ⟨λd5 off cap a W c d b=>callsIn_wide.2 (AnyM.slices_Sort_int sortA d5 off cap a W c d b),λp cap W=>callsIn_wide.2 (AnyM.slices_Sort_int_none sortA p cap W)⟩
theorem Si(l b nn:U)(c:DataW Unit)(w:World)(hl:l<w.heap.size)(h:w.cell? ⟨l,0,J⟩=Y (.map (Y b)))(j:w.ownsMap Tryz.prog 3 (λ_=>Y (.nil,[])) b nn c)(g:Maps.size c<=maxLen)(a:Maps.size c*8<=140737488355328):
  Calls Tryz.prog 83 #[.func (.func 130) #[] #[.pointer (Y ⟨l,0,J⟩)]] w λe w' => ∃(v:Value)(d:Z R),e= .returned v/\d.Perm (intKeys c)/\
   w'.ownsRow w.heap.size 3 1 v d.length ((d.mergeSort (λx y=>decide (x<=y))).map encZ)/\(v= .slice J 0 0↔d=[])/\Below w.heap.size w w' :=by
 have f:SeqGives Fence.wide 2 Tryz.prog 130 #[.pointer (Y ⟨l,0,J⟩)] encZ (λd=>d.Perm (intKeys c)) (Maps.size c) w:=
  AnyZI.keys_gives (ρ:=B0) { keysA with } Fence.wide _ trivial rfl o? l b nn c w hl h j
 have i:=AnyZI.sorted_in sortedA Fence.wide 5 trivial trivial trivial trivial rfl o? (sortsA _) (enters_of Tryz.func129 k? rfl) 130 #[.pointer (Y ⟨l,0,J⟩)] trivial (enters_of Tryz.func130 k? rfl) _ _ g a _ f;exact(callsIn_wide (n:=5)).1 i
def vA(args:Z AV)(H:qt):T (AV×qt):=UY 130 args H
theorem spS_ok{args:Z AV}{H:qt}{r:AV}{H' :qt}(a:vA args H=Y (r,H')):enters Tryz.prog 83/\ZY Tryz.prog 83 args H r H' :=by unfold vA at a;exact Sj (kt:=3) Tryz.underlying3 ⟨_,Tryz.func83,k?,k?⟩ Si a
def YO:Go.Shelf.Ren:=⟨λ|240=>252|276=>293|n=>n,λ|37=>67|70=>284|72=>286|164=>382|n=>n,λn=>n⟩
theorem checkA:Lays.n240 Tryz.prog YO where
 mixed:=k?
 f240:=Tryz.func252.trans (M Y k?)
 f276:=Tryz.func293.trans (M Y k?)
 t0:=Tryz.underlying0
 a0:=Tryz.isAgg0
 z0:=Tryz.sizeOf0
 v0:=Tryz.zeroValue0
 t4:=Tryz.underlying4
 a4:=Tryz.isAgg4
 z4:=Tryz.sizeOf4
 v4:=Tryz.zeroValue4
 t9:=Tryz.underlying9
 a9:=Tryz.isAgg9
 z9:=Tryz.sizeOf9
 v9:=Tryz.zeroValue9
 t20:=Tryz.underlying20
 a20:=Tryz.isAgg20
 z20:=Tryz.sizeOf20
 v20:=Tryz.zeroValue20
 t70:=Tryz.underlying284
 a70:=Tryz.isAgg284
 z70:=Tryz.sizeOf284
 v70:=Tryz.zeroValue284
 t72:=Tryz.underlying286
 a72:=Tryz.isAgg286
 z72:=Tryz.sizeOf286
 v72:=Tryz.zeroValue286
 t164:=Tryz.underlying382
 a164:=Tryz.isAgg382
 z164:=Tryz.sizeOf382
 v164:=Tryz.zeroValue382
theorem checkX:Builder.X72 Tryz.prog YO:=⟨k?,k?⟩
theorem spC_ok{args:Z AV}{H:qt}{r:AV}{H' :qt}(a:Yk 286 args H=Y (r,H')):enters Tryz.prog 252/\ZY Tryz.prog 252 args H r H' :=
 FF ⟨_,Tryz.func252,k?,k?⟩ (λb w h=>Any.Builder_copyCheck_used checkA checkX b w h) (λb w e d c=>Any.Builder_copyCheck_fresh checkA checkX b w e d c) a
def S:rX:=⟨λf=>if f=83 then Y vA else if f=252 then Y (Yk 286)else J⟩
theorem S_ok:XI Tryz.prog S:=λf g h args H r H' b=>by simp only[S]at h;split at h;rename_i a;subst a;cases h;exact spS_ok b;split at h;rename_i a;subst a;cases h;exact spC_ok b;cases h
noncomputable abbrev O:jb:=omega G S
end Go.Proofs.YtadahlbndbmdeaaGreat
set_option maxRecDepth 100000
namespace Go.Proofs.YtadahlbndbmdeaaGreat
open Go Go.Gm
structure qm where
 anchor:R
 head:R
 deriving Inhabited,DecidableEq
def qm.enc(x:qm):Z D:=
 [I E x.anchor,I E x.head]
theorem qm.qU(x:qm):x.enc=[I E x.anchor,I E x.head]:=rfl
def qm.ok(x:qm):Prop:=Q4 x.anchor/\Q4 x.head/\True
structure qg where
 qG:R
 to:R
 deriving Inhabited,DecidableEq
def qg.enc(x:qg):Z D:=
 [I E x.qG,I E x.to]
theorem qg.qU(x:qg):x.enc=[I E x.qG,I E x.to]:=rfl
def qg.ok(x:qg):Prop:=Q4 x.qG/\Q4 x.to/\True
structure zf where
 qG:qa
 to:qa
 deriving Inhabited,DecidableEq
def zf.enc(x:zf):Z D:=
 [F? x.qG,F? x.to]
theorem zf.qU(x:zf):x.enc=[F? x.qG,F? x.to]:=rfl
def zf.ok(x:zf):Prop:=tO x.qG/\tO x.to/\True
structure qI where
 kind:R
 char:qa
 not:C
 rows:(Sl zf)
 min:R
 max:R
 lazy:C
 qB:(Sl qI)
 deriving Inhabited
mutual
def qI.enc:qI->Z D
 |⟨h,g,f,a,e,d,c,b⟩=>[I E h,F? g,W? f,B a.nil (K 2 a.l) (N zf.enc a.l),I E e,I E d,W? c,qI.YT b]
def qI.YT:Sl qI->D
 |⟨b,l⟩=> .sl b (K 8 l) (qI.Kn l)
def qI.Kn:Z qI->Z (Z D)
 |[]=>[]
 |x::r=>x.enc::qI.Kn r
end
theorem qI.ar: ∀l:Z qI,qI.Kn l=l.map qI.enc
 |[]=>rfl
 |x::r=>by simp[qI.Kn,qI.ar r]
theorem qI.Ko(s:Sl qI):qI.YT s= .sl s.nil (K 8 s.l) (s.l.map qI.enc):=by cases s;simp[qI.YT,qI.ar]
theorem qI.qU(x:qI):x.enc=[I E x.kind,F? x.char,W? x.not,B x.rows.nil (K 2 x.rows.l) (N zf.enc x.rows.l),I E x.min,I E x.max,W? x.lazy,B x.qB.nil (K 8 x.qB.l) (N qI.enc x.qB.l)]:=by cases x;simp[qI.enc,qI.Ko]
mutual
def qI.ok:qI->Prop
 |⟨h,g,f,e,d,c,b,a⟩=>Q4 h/\tO g/\mW f/\(th zf.ok) e/\Q4 d/\Q4 c/\mW b/\qI.okS a/\True
def qI.okS:Sl qI->Prop
 |⟨b,l⟩=>(l.length<=maxLen/\(b=V->l=[]))/\qI.okL l
def qI.okL:Z qI->Prop
 |[]=>True
 |x::r=>x.ok/\qI.okL r
end
structure zQ where
 kind:R
 n:R
 Gt:R
 ZV:qa
 J8:qa
 deriving Inhabited,DecidableEq
def zQ.enc(x:zQ):Z D:=
 [I E x.kind,I E x.n,I E x.Gt,F? x.ZV,F? x.J8]
theorem zQ.qU(x:zQ):x.enc=[I E x.kind,I E x.n,I E x.Gt,F? x.ZV,F? x.J8]:=rfl
def zQ.ok(x:zQ):Prop:=Q4 x.kind/\Q4 x.n/\Q4 x.Gt/\tO x.ZV/\tO x.J8/\True
structure zG where
 rx:qI
 yg:(Sl zQ)
 fold:C
 all:C
 deriving Inhabited
def zG.enc(x:zG):Z D:=
 [I E x.rx.kind,F? x.rx.char,W? x.rx.not,B x.rx.rows.nil (K 2 x.rx.rows.l) (N zf.enc x.rx.rows.l),I E x.rx.min,I E x.rx.max,W? x.rx.lazy,B x.rx.qB.nil (K 8 x.rx.qB.l) (N qI.enc x.rx.qB.l),B x.yg.nil (K 5 x.yg.l) (N zQ.enc x.yg.l),W? x.fold,W? x.all]
theorem zG.qU(x:zG):x.enc=[I E x.rx.kind,F? x.rx.char,W? x.rx.not,B x.rx.rows.nil (K 2 x.rx.rows.l) (N zf.enc x.rx.rows.l),I E x.rx.min,I E x.rx.max,W? x.rx.lazy,B x.rx.qB.nil (K 8 x.rx.qB.l) (N qI.enc x.rx.qB.l),B x.yg.nil (K 5 x.yg.l) (N zQ.enc x.yg.l),W? x.fold,W? x.all]:=rfl
def zG.ok(x:zG):Prop:=qI.ok x.rx/\(th zQ.ok) x.yg/\mW x.fold/\mW x.all/\True
structure qu where
 span:qg
 n:R
 up:R
 first:C
 qR:C
 qZ:zG
 opts:(Sl qa)
 deriving Inhabited
def qu.enc(x:qu):Z D:=
 [I E x.span.qG,I E x.span.to,I E x.n,I E x.up,W? x.first,W? x.qR,I E x.qZ.rx.kind,F? x.qZ.rx.char,W? x.qZ.rx.not,B x.qZ.rx.rows.nil (K 2 x.qZ.rx.rows.l) (N zf.enc x.qZ.rx.rows.l),I E x.qZ.rx.min,I E x.qZ.rx.max,W? x.qZ.rx.lazy,B x.qZ.rx.qB.nil (K 8 x.qZ.rx.qB.l) (N qI.enc x.qZ.rx.qB.l),B x.qZ.yg.nil (K 5 x.qZ.yg.l) (N zQ.enc x.qZ.yg.l),W? x.qZ.fold,W? x.qZ.all,B x.opts.nil (K 1 x.opts.l) (N oC x.opts.l)]
theorem qu.qU(x:qu):x.enc=[I E x.span.qG,I E x.span.to,I E x.n,I E x.up,W? x.first,W? x.qR,I E x.qZ.rx.kind,F? x.qZ.rx.char,W? x.qZ.rx.not,B x.qZ.rx.rows.nil (K 2 x.qZ.rx.rows.l) (N zf.enc x.qZ.rx.rows.l),I E x.qZ.rx.min,I E x.qZ.rx.max,W? x.qZ.rx.lazy,B x.qZ.rx.qB.nil (K 8 x.qZ.rx.qB.l) (N qI.enc x.qZ.rx.qB.l),B x.qZ.yg.nil (K 5 x.qZ.yg.l) (N zQ.enc x.qZ.yg.l),W? x.qZ.fold,W? x.qZ.all,B x.opts.nil (K 1 x.opts.l) (N oC x.opts.l)]:=rfl
def qu.ok(x:qu):Prop:=qg.ok x.span/\Q4 x.n/\Q4 x.up/\mW x.first/\mW x.qR/\zG.ok x.qZ/\(th tO) x.opts/\True
structure qr where
 span:qg
 stops:(Sl qu)
 deriving Inhabited
def qr.enc(x:qr):Z D:=
 [I E x.span.qG,I E x.span.to,B x.stops.nil (K 18 x.stops.l) (N qu.enc x.stops.l)]
theorem qr.qU(x:qr):x.enc=[I E x.span.qG,I E x.span.to,B x.stops.nil (K 18 x.stops.l) (N qu.enc x.stops.l)]:=rfl
def qr.ok(x:qr):Prop:=qg.ok x.span/\(th qu.ok) x.stops/\True
structure qb where
 cur:R
 insts:(Sl qr)
 deriving Inhabited
def qb.enc(x:qb):Z D:=
 [I E x.cur,B x.insts.nil (K 3 x.insts.l) (N qr.enc x.insts.l)]
theorem qb.qU(x:qb):x.enc=[I E x.cur,B x.insts.nil (K 3 x.insts.l) (N qr.enc x.insts.l)]:=rfl
def qb.ok(x:qb):Prop:=Q4 x.cur/\(th qr.ok) x.insts/\True
structure qv where
 text:qa
 zP:(Sl qm)
 qi:(Sl qb)
 deriving Inhabited
def qv.enc(x:qv):Z D:=
 [F? x.text,B x.zP.nil (K 2 x.zP.l) (N qm.enc x.zP.l),B x.qi.nil (K 2 x.qi.l) (N qb.enc x.qi.l)]
theorem qv.qU(x:qv):x.enc=[F? x.text,B x.zP.nil (K 2 x.zP.l) (N qm.enc x.zP.l),B x.qi.nil (K 2 x.qi.l) (N qb.enc x.qi.l)]:=rfl
def qv.ok(x:qv):Prop:=tO x.text/\(th qm.ok) x.zP/\(th qb.ok) x.qi/\True
structure qf where
 span:qg
 text:qa
 deriving Inhabited,DecidableEq
def qf.enc(x:qf):Z D:=
 [I E x.span.qG,I E x.span.to,F? x.text]
theorem qf.qU(x:qf):x.enc=[I E x.span.qG,I E x.span.to,F? x.text]:=rfl
def qf.ok(x:qf):Prop:=qg.ok x.span/\tO x.text/\True
structure pq where
 kind:R
 name:qa
 text:qa
 n:R
 extend:C
 edits:(Sl qf)
 zP:(Sl qm)
 deriving Inhabited,DecidableEq
def pq.enc(x:pq):Z D:=
 [I E x.kind,F? x.name,F? x.text,I E x.n,W? x.extend,B x.edits.nil (K 3 x.edits.l) (N qf.enc x.edits.l),B x.zP.nil (K 2 x.zP.l) (N qm.enc x.zP.l)]
theorem pq.qU(x:pq):x.enc=[I E x.kind,F? x.name,F? x.text,I E x.n,W? x.extend,B x.edits.nil (K 3 x.edits.l) (N qf.enc x.edits.l),B x.zP.nil (K 2 x.zP.l) (N qm.enc x.zP.l)]:=rfl
def pq.ok(x:pq):Prop:=Q4 x.kind/\tO x.name/\tO x.text/\Q4 x.n/\mW x.extend/\(th qf.ok) x.edits/\(th qm.ok) x.zP/\True
structure qz where
 name:qa
 value:qa
 deriving Inhabited,DecidableEq
def qz.enc(x:qz):Z D:=
 [F? x.name,F? x.value]
theorem qz.qU(x:qz):x.enc=[F? x.name,F? x.value]:=rfl
def qz.ok(x:qz):Prop:=tO x.name/\tO x.value/\True
structure zW where
 st:qv
 env:(Sl qz)
 behind:(Sl qv)
 ahead:(Sl qv)
 deriving Inhabited
def zW.enc(x:zW):Z D:=
 [F? x.st.text,B x.st.zP.nil (K 2 x.st.zP.l) (N qm.enc x.st.zP.l),B x.st.qi.nil (K 2 x.st.qi.l) (N qb.enc x.st.qi.l),B x.env.nil (K 2 x.env.l) (N qz.enc x.env.l),B x.behind.nil (K 3 x.behind.l) (N qv.enc x.behind.l),B x.ahead.nil (K 3 x.ahead.l) (N qv.enc x.ahead.l)]
theorem zW.qU(x:zW):x.enc=[F? x.st.text,B x.st.zP.nil (K 2 x.st.zP.l) (N qm.enc x.st.zP.l),B x.st.qi.nil (K 2 x.st.qi.l) (N qb.enc x.st.qi.l),B x.env.nil (K 2 x.env.l) (N qz.enc x.env.l),B x.behind.nil (K 3 x.behind.l) (N qv.enc x.behind.l),B x.ahead.nil (K 3 x.ahead.l) (N qv.enc x.ahead.l)]:=rfl
def zW.ok(x:zW):Prop:=qv.ok x.st/\(th qz.ok) x.env/\(th qv.ok) x.behind/\(th qv.ok) x.ahead/\True
structure zo where
 id:R
 held:C
 deriving Inhabited,DecidableEq
def zo.enc(x:zo):Z D:=
 [I E x.id,W? x.held]
theorem zo.qU(x:zo):x.enc=[I E x.id,W? x.held]:=rfl
def zo.ok(x:zo):Prop:=Q4 x.id/\mW x.held/\True
structure qN where
 mD:qb
 marks:(Sl (Sl zo))
 deriving Inhabited
def qN.enc(x:qN):Z D:=
 [I E x.mD.cur,B x.mD.insts.nil (K 3 x.mD.insts.l) (N qr.enc x.mD.insts.l),B x.marks.nil (K 1 x.marks.l) (N (ro 2 zo.enc) x.marks.l)]
theorem qN.qU(x:qN):x.enc=[I E x.mD.cur,B x.mD.insts.nil (K 3 x.mD.insts.l) (N qr.enc x.mD.insts.l),B x.marks.nil (K 1 x.marks.l) (N (ro 2 zo.enc) x.marks.l)]:=rfl
def qN.ok(x:qN):Prop:=qb.ok x.mD/\(th (th zo.ok)) x.marks/\True
structure zg where
 text:qa
 zP:(Sl qm)
 qi:(Sl qN)
 deriving Inhabited
def zg.enc(x:zg):Z D:=
 [F? x.text,B x.zP.nil (K 2 x.zP.l) (N qm.enc x.zP.l),B x.qi.nil (K 3 x.qi.l) (N qN.enc x.qi.l)]
theorem zg.qU(x:zg):x.enc=[F? x.text,B x.zP.nil (K 2 x.zP.l) (N qm.enc x.zP.l),B x.qi.nil (K 3 x.qi.l) (N qN.enc x.qi.l)]:=rfl
def zg.ok(x:zg):Prop:=tO x.text/\(th qm.ok) x.zP/\(th qN.ok) x.qi/\True
structure xv where
 st:qv
 fl:(Sl (Sl (Sl R)))
 deriving Inhabited
def xv.enc(x:xv):Z D:=
 [F? x.st.text,B x.st.zP.nil (K 2 x.st.zP.l) (N qm.enc x.st.zP.l),B x.st.qi.nil (K 2 x.st.qi.l) (N qb.enc x.st.qi.l),B x.fl.nil (K 1 x.fl.l) (N (ro 1 (ro 1 jf)) x.fl.l)]
theorem xv.qU(x:xv):x.enc=[F? x.st.text,B x.st.zP.nil (K 2 x.st.zP.l) (N qm.enc x.st.zP.l),B x.st.qi.nil (K 2 x.st.qi.l) (N qb.enc x.st.qi.l),B x.fl.nil (K 1 x.fl.l) (N (ro 1 (ro 1 jf)) x.fl.l)]:=rfl
def xv.ok(x:xv):Prop:=qv.ok x.st/\(th (th (th Q4))) x.fl/\True
structure qF where
 kind:R
 text:qa
 n:R
 has:C
 qR:C
 qZ:zG
 opts:(Sl qa)
 qB:(Sl qF)
 deriving Inhabited
mutual
def qF.enc:qF->Z D
 |⟨h,g,f,e,d,a,b,c⟩=>[I E h,F? g,I E f,W? e,W? d,I E a.rx.kind,F? a.rx.char,W? a.rx.not,B a.rx.rows.nil (K 2 a.rx.rows.l) (N zf.enc a.rx.rows.l),I E a.rx.min,I E a.rx.max,W? a.rx.lazy,B a.rx.qB.nil (K 8 a.rx.qB.l) (N qI.enc a.rx.qB.l),B a.yg.nil (K 5 a.yg.l) (N zQ.enc a.yg.l),W? a.fold,W? a.all,B b.nil (K 1 b.l) (N oC b.l),qF.YT c]
def qF.YT:Sl qF->D
 |⟨b,l⟩=> .sl b (K 18 l) (qF.Kn l)
def qF.Kn:Z qF->Z (Z D)
 |[]=>[]
 |x::r=>x.enc::qF.Kn r
end
theorem qF.ar: ∀l:Z qF,qF.Kn l=l.map qF.enc
 |[]=>rfl
 |x::r=>by simp[qF.Kn,qF.ar r]
theorem qF.Ko(s:Sl qF):qF.YT s= .sl s.nil (K 18 s.l) (s.l.map qF.enc):=by cases s;simp[qF.YT,qF.ar]
theorem qF.qU(x:qF):x.enc=[I E x.kind,F? x.text,I E x.n,W? x.has,W? x.qR,I E x.qZ.rx.kind,F? x.qZ.rx.char,W? x.qZ.rx.not,B x.qZ.rx.rows.nil (K 2 x.qZ.rx.rows.l) (N zf.enc x.qZ.rx.rows.l),I E x.qZ.rx.min,I E x.qZ.rx.max,W? x.qZ.rx.lazy,B x.qZ.rx.qB.nil (K 8 x.qZ.rx.qB.l) (N qI.enc x.qZ.rx.qB.l),B x.qZ.yg.nil (K 5 x.qZ.yg.l) (N zQ.enc x.qZ.yg.l),W? x.qZ.fold,W? x.qZ.all,B x.opts.nil (K 1 x.opts.l) (N oC x.opts.l),B x.qB.nil (K 18 x.qB.l) (N qF.enc x.qB.l)]:=by cases x;simp[qF.enc,qF.Ko]
mutual
def qF.ok:qF->Prop
 |⟨h,g,f,e,d,c,b,a⟩=>Q4 h/\tO g/\Q4 f/\mW e/\mW d/\zG.ok c/\(th tO) b/\qF.okS a/\True
def qF.okS:Sl qF->Prop
 |⟨b,l⟩=>(l.length<=maxLen/\(b=V->l=[]))/\qF.okL l
def qF.okL:Z qF->Prop
 |[]=>True
 |x::r=>x.ok/\qF.okL r
end
structure xi where
 s:qa
 what:(Sl qF)
 u7:(Sl R)
 deriving Inhabited
def xi.enc(x:xi):Z D:=
 [F? x.s,B x.what.nil (K 18 x.what.l) (N qF.enc x.what.l),B x.u7.nil (K 1 x.u7.l) (N jf x.u7.l)]
theorem xi.qU(x:xi):x.enc=[F? x.s,B x.what.nil (K 18 x.what.l) (N qF.enc x.what.l),B x.u7.nil (K 1 x.u7.l) (N jf x.u7.l)]:=rfl
def xi.ok(x:xi):Prop:=tO x.s/\(th qF.ok) x.what/\(th Q4) x.u7/\True
structure wI where
 e:qf
 CM:(Sl (Sl R))
 inst:R
 zw:R
 deriving Inhabited,DecidableEq
def wI.enc(x:wI):Z D:=
 [I E x.e.span.qG,I E x.e.span.to,F? x.e.text,B x.CM.nil (K 1 x.CM.l) (N (ro 1 jf) x.CM.l),I E x.inst,I E x.zw]
theorem wI.qU(x:wI):x.enc=[I E x.e.span.qG,I E x.e.span.to,F? x.e.text,B x.CM.nil (K 1 x.CM.l) (N (ro 1 jf) x.CM.l),I E x.inst,I E x.zw]:=rfl
def wI.ok(x:wI):Prop:=qf.ok x.e/\(th (th Q4)) x.CM/\Q4 x.inst/\Q4 x.zw/\True
structure kM where
 span:qg
 parts:(Sl qg)
 deriving Inhabited,DecidableEq
def kM.enc(x:kM):Z D:=
 [I E x.span.qG,I E x.span.to,B x.parts.nil (K 2 x.parts.l) (N qg.enc x.parts.l)]
theorem kM.qU(x:kM):x.enc=[I E x.span.qG,I E x.span.to,B x.parts.nil (K 2 x.parts.l) (N qg.enc x.parts.l)]:=rfl
def kM.ok(x:kM):Prop:=qg.ok x.span/\(th qg.ok) x.parts/\True
structure zi where
 bytes:R
 breaks:R
 oq:R
 eD:R
 deriving Inhabited,DecidableEq
def zi.enc(x:zi):Z D:=
 [I E x.bytes,I E x.breaks,I E x.oq,I E x.eD]
theorem zi.qU(x:zi):x.enc=[I E x.bytes,I E x.breaks,I E x.oq,I E x.eD]:=rfl
def zi.ok(x:zi):Prop:=Q4 x.bytes/\Q4 x.breaks/\Q4 x.oq/\Q4 x.eD/\True
structure qc where
 kind:R
 text:qa
 n:R
 jO:C
 first:C
 qR:C
 qZ:zG
 opts:(Sl qa)
 up:R
 end_:R
 deriving Inhabited
def qc.enc(x:qc):Z D:=
 [I E x.kind,F? x.text,I E x.n,W? x.jO,W? x.first,W? x.qR,I E x.qZ.rx.kind,F? x.qZ.rx.char,W? x.qZ.rx.not,B x.qZ.rx.rows.nil (K 2 x.qZ.rx.rows.l) (N zf.enc x.qZ.rx.rows.l),I E x.qZ.rx.min,I E x.qZ.rx.max,W? x.qZ.rx.lazy,B x.qZ.rx.qB.nil (K 8 x.qZ.rx.qB.l) (N qI.enc x.qZ.rx.qB.l),B x.qZ.yg.nil (K 5 x.qZ.yg.l) (N zQ.enc x.qZ.yg.l),W? x.qZ.fold,W? x.qZ.all,B x.opts.nil (K 1 x.opts.l) (N oC x.opts.l),I E x.up,I E x.end_]
theorem qc.qU(x:qc):x.enc=[I E x.kind,F? x.text,I E x.n,W? x.jO,W? x.first,W? x.qR,I E x.qZ.rx.kind,F? x.qZ.rx.char,W? x.qZ.rx.not,B x.qZ.rx.rows.nil (K 2 x.qZ.rx.rows.l) (N zf.enc x.qZ.rx.rows.l),I E x.qZ.rx.min,I E x.qZ.rx.max,W? x.qZ.rx.lazy,B x.qZ.rx.qB.nil (K 8 x.qZ.rx.qB.l) (N qI.enc x.qZ.rx.qB.l),B x.qZ.yg.nil (K 5 x.qZ.yg.l) (N zQ.enc x.qZ.yg.l),W? x.qZ.fold,W? x.qZ.all,B x.opts.nil (K 1 x.opts.l) (N oC x.opts.l),I E x.up,I E x.end_]:=rfl
def qc.ok(x:qc):Prop:=Q4 x.kind/\tO x.text/\Q4 x.n/\mW x.jO/\mW x.first/\mW x.qR/\zG.ok x.qZ/\(th tO) x.opts/\Q4 x.up/\Q4 x.end_/\True
structure xJ where
 env:(Sl qz)
 lead:qa
 unit:qa
 parts:(Sl qc)
 defs:(Sl R)
 names:(Sl qa)
 deriving Inhabited
def xJ.enc(x:xJ):Z D:=
 [B x.env.nil (K 2 x.env.l) (N qz.enc x.env.l),F? x.lead,F? x.unit,B x.parts.nil (K 20 x.parts.l) (N qc.enc x.parts.l),B x.defs.nil (K 1 x.defs.l) (N jf x.defs.l),B x.names.nil (K 1 x.names.l) (N oC x.names.l)]
theorem xJ.qU(x:xJ):x.enc=[B x.env.nil (K 2 x.env.l) (N qz.enc x.env.l),F? x.lead,F? x.unit,B x.parts.nil (K 20 x.parts.l) (N qc.enc x.parts.l),B x.defs.nil (K 1 x.defs.l) (N jf x.defs.l),B x.names.nil (K 1 x.names.l) (N oC x.names.l)]:=rfl
def xJ.ok(x:xJ):Prop:=(th qz.ok) x.env/\tO x.lead/\tO x.unit/\(th qc.ok) x.parts/\(th Q4) x.defs/\(th tO) x.names/\True
structure xI where
 ns:(Sl R)
 ts:(Sl qa)
 deriving Inhabited,DecidableEq
def xI.enc(x:xI):Z D:=
 [B x.ns.nil (K 1 x.ns.l) (N jf x.ns.l),B x.ts.nil (K 1 x.ts.l) (N oC x.ts.l)]
theorem xI.qU(x:xI):x.enc=[B x.ns.nil (K 1 x.ns.l) (N jf x.ns.l),B x.ts.nil (K 1 x.ts.l) (N oC x.ts.l)]:=rfl
def xI.ok(x:xI):Prop:=(th Q4) x.ns/\(th tO) x.ts/\True
structure qT where
 rx:qI
 qB:(Sl qT)
 lo:R
 hi:R
 deriving Inhabited
mutual
def qT.enc:qT->Z D
 |⟨a,d,c,b⟩=>[I E a.kind,F? a.char,W? a.not,B a.rows.nil (K 2 a.rows.l) (N zf.enc a.rows.l),I E a.min,I E a.max,W? a.lazy,B a.qB.nil (K 8 a.qB.l) (N qI.enc a.qB.l),qT.YT d,I E c,I E b]
def qT.YT:Sl qT->D
 |⟨b,l⟩=> .sl b (K 11 l) (qT.Kn l)
def qT.Kn:Z qT->Z (Z D)
 |[]=>[]
 |x::r=>x.enc::qT.Kn r
end
theorem qT.ar: ∀l:Z qT,qT.Kn l=l.map qT.enc
 |[]=>rfl
 |x::r=>by simp[qT.Kn,qT.ar r]
theorem qT.Ko(s:Sl qT):qT.YT s= .sl s.nil (K 11 s.l) (s.l.map qT.enc):=by cases s;simp[qT.YT,qT.ar]
theorem qT.qU(x:qT):x.enc=[I E x.rx.kind,F? x.rx.char,W? x.rx.not,B x.rx.rows.nil (K 2 x.rx.rows.l) (N zf.enc x.rx.rows.l),I E x.rx.min,I E x.rx.max,W? x.rx.lazy,B x.rx.qB.nil (K 8 x.rx.qB.l) (N qI.enc x.rx.qB.l),B x.qB.nil (K 11 x.qB.l) (N qT.enc x.qB.l),I E x.lo,I E x.hi]:=by cases x;simp[qT.enc,qT.Ko]
mutual
def qT.ok:qT->Prop
 |⟨d,c,b,a⟩=>qI.ok d/\qT.okS c/\Q4 b/\Q4 a/\True
def qT.okS:Sl qT->Prop
 |⟨b,l⟩=>(l.length<=maxLen/\(b=V->l=[]))/\qT.okL l
def qT.okL:Z qT->Prop
 |[]=>True
 |x::r=>x.ok/\qT.okL r
end
structure vV where
 top:qT
 fold:C
 chars:(Sl qa)
 places:(Sl R)
 parts:(Sl qg)
 fuel:R
 out:C
 deriving Inhabited
def vV.enc(x:vV):Z D:=
 [I E x.top.rx.kind,F? x.top.rx.char,W? x.top.rx.not,B x.top.rx.rows.nil (K 2 x.top.rx.rows.l) (N zf.enc x.top.rx.rows.l),I E x.top.rx.min,I E x.top.rx.max,W? x.top.rx.lazy,B x.top.rx.qB.nil (K 8 x.top.rx.qB.l) (N qI.enc x.top.rx.qB.l),B x.top.qB.nil (K 11 x.top.qB.l) (N qT.enc x.top.qB.l),I E x.top.lo,I E x.top.hi,W? x.fold,B x.chars.nil (K 1 x.chars.l) (N oC x.chars.l),B x.places.nil (K 1 x.places.l) (N jf x.places.l),B x.parts.nil (K 2 x.parts.l) (N qg.enc x.parts.l),I E x.fuel,W? x.out]
theorem vV.qU(x:vV):x.enc=[I E x.top.rx.kind,F? x.top.rx.char,W? x.top.rx.not,B x.top.rx.rows.nil (K 2 x.top.rx.rows.l) (N zf.enc x.top.rx.rows.l),I E x.top.rx.min,I E x.top.rx.max,W? x.top.rx.lazy,B x.top.rx.qB.nil (K 8 x.top.rx.qB.l) (N qI.enc x.top.rx.qB.l),B x.top.qB.nil (K 11 x.top.qB.l) (N qT.enc x.top.qB.l),I E x.top.lo,I E x.top.hi,W? x.fold,B x.chars.nil (K 1 x.chars.l) (N oC x.chars.l),B x.places.nil (K 1 x.places.l) (N jf x.places.l),B x.parts.nil (K 2 x.parts.l) (N qg.enc x.parts.l),I E x.fuel,W? x.out]:=rfl
def vV.ok(x:vV):Prop:=qT.ok x.top/\mW x.fold/\(th tO) x.chars/\(th Q4) x.places/\(th qg.ok) x.parts/\Q4 x.fuel/\mW x.out/\True
structure qo where
 span:qg
 parts:(Sl qg)
 deriving Inhabited,DecidableEq
def qo.enc(x:qo):Z D:=
 [I E x.span.qG,I E x.span.to,B x.parts.nil (K 2 x.parts.l) (N qg.enc x.parts.l)]
theorem qo.qU(x:qo):x.enc=[I E x.span.qG,I E x.span.to,B x.parts.nil (K 2 x.parts.l) (N qg.enc x.parts.l)]:=rfl
def qo.ok(x:qo):Prop:=qg.ok x.span/\(th qg.ok) x.parts/\True
structure qd where
 cs:(Sl qa)
 qp:R
 deriving Inhabited,DecidableEq
def qd.enc(x:qd):Z D:=
 [B x.cs.nil (K 1 x.cs.l) (N oC x.cs.l),I E x.qp]
theorem qd.qU(x:qd):x.enc=[B x.cs.nil (K 1 x.cs.l) (N oC x.cs.l),I E x.qp]:=rfl
def qd.ok(x:qd):Prop:=(th tO) x.cs/\Q4 x.qp/\True
structure qE where
 span:qg
 up:R
 deriving Inhabited,DecidableEq
def qE.enc(x:qE):Z D:=
 [I E x.span.qG,I E x.span.to,I E x.up]
theorem qE.qU(x:qE):x.enc=[I E x.span.qG,I E x.span.to,I E x.up]:=rfl
def qE.ok(x:qE):Prop:=qg.ok x.span/\Q4 x.up/\True
structure qj where
 cs:(Sl qa)
 yi:(Sl R)
 fold:C
 fuel:R
 out:C
 deriving Inhabited,DecidableEq
def qj.enc(x:qj):Z D:=
 [B x.cs.nil (K 1 x.cs.l) (N oC x.cs.l),B x.yi.nil (K 1 x.yi.l) (N jf x.yi.l),W? x.fold,I E x.fuel,W? x.out]
theorem qj.qU(x:qj):x.enc=[B x.cs.nil (K 1 x.cs.l) (N oC x.cs.l),B x.yi.nil (K 1 x.yi.l) (N jf x.yi.l),W? x.fold,I E x.fuel,W? x.out]:=rfl
def qj.ok(x:qj):Prop:=(th tO) x.cs/\(th Q4) x.yi/\mW x.fold/\Q4 x.fuel/\mW x.out/\True
structure qe where
 kind:R
 x:qI
 g:R
 many:R
 qG:R
 rest:(T qe)
 deriving Inhabited
mutual
def qe.enc:qe->Z D
 |⟨f,a,e,d,c,b⟩=>[I E f,I E a.kind,F? a.char,W? a.not,B a.rows.nil (K 2 a.rows.l) (N zf.enc a.rows.l),I E a.min,I E a.max,W? a.lazy,B a.qB.nil (K 8 a.qB.l) (N qI.enc a.qB.l),I E e,I E d,I E c,qe.au b]
def qe.au:T qe->D
 |none=> .uI
 |some x=> .rp x.enc
end
theorem qe.Gx:qe.au J= .uI:=by simp[qe.au]
theorem qe.Gy(x:qe):qe.au (Y x)= .rp x.enc:=by simp[qe.au]
theorem qe.Ai(k:T qe)(H:qt):ea .ptr (.pv (qe.au k)) H=Y k.isNone:=by cases k<;>simp[qe.au,ea]
theorem qe.Td(k:T qe):b! (.pv (qe.au k))=[.pv (qe.au k)]:=by cases k<;>simp[qe.au,b!]
theorem qe.qU(x:qe):x.enc=[I E x.kind,I E x.x.kind,F? x.x.char,W? x.x.not,B x.x.rows.nil (K 2 x.x.rows.l) (N zf.enc x.x.rows.l),I E x.x.min,I E x.x.max,W? x.x.lazy,B x.x.qB.nil (K 8 x.x.qB.l) (N qI.enc x.x.qB.l),I E x.g,I E x.many,I E x.qG,qe.au x.rest]:=by cases x;simp[qe.enc]
def qe.ok(_:qe):Prop:=True
def aw6:T C:=Y V
theorem oX{α:Type}{a b:C}{p q:T α}{r:α}{P:Prop}(f:a=V->b=V->p=Y r->P)(g:((a=X/\ia)\/(a=V/\b=X))->q=Y r->P)(h:(if (a&&b)=V then p else q)=Y r):P:=by cases a<;>cases b<;>simp_all [ia]
theorem VQ{α:Type}{a i b e c d u6:C}{p q:T α}{r:α}{P:Prop}(f:((a=V/\i=V/\ia/\ia/\ia/\ia/\ia)\/(a=X/\ia/\b=V/\e=V/\ia/\ia/\ia)\/(a=X/\ia/\b=X/\ia/\c=V/\d=V/\ia)\/(a=X/\ia/\b=X/\ia/\c=X/\ia/\u6=V)\/(a=X/\ia/\b=X/\ia/\c=V/\d=X/\u6=V)\/(a=X/\ia/\b=V/\e=X/\c=V/\d=V/\ia)\/(a=X/\ia/\b=V/\e=X/\c=X/\ia/\u6=V)\/(a=X/\ia/\b=V/\e=X/\c=V/\d=X/\u6=V)\/(a=V/\i=X/\b=V/\e=V/\ia/\ia/\ia)\/(a=V/\i=X/\b=X/\ia/\c=V/\d=V/\ia)\/(a=V/\i=X/\b=X/\ia/\c=X/\ia/\u6=V)\/(a=V/\i=X/\b=X/\ia/\c=V/\d=X/\u6=V)\/(a=V/\i=X/\b=V/\e=X/\c=V/\d=V/\ia)\/(a=V/\i=X/\b=V/\e=X/\c=X/\ia/\u6=V)\/(a=V/\i=X/\b=V/\e=X/\c=V/\d=X/\u6=V))->p=Y r->P)(g:((a=X/\ia/\b=X/\ia/\c=X/\ia/\u6=X)\/(a=X/\ia/\b=X/\ia/\c=V/\d=X/\u6=X)\/(a=X/\ia/\b=V/\e=X/\c=X/\ia/\u6=X)\/(a=X/\ia/\b=V/\e=X/\c=V/\d=X/\u6=X)\/(a=V/\i=X/\b=X/\ia/\c=X/\ia/\u6=X)\/(a=V/\i=X/\b=X/\ia/\c=V/\d=X/\u6=X)\/(a=V/\i=X/\b=V/\e=X/\c=X/\ia/\u6=X)\/(a=V/\i=X/\b=V/\e=X/\c=V/\d=X/\u6=X))->q=Y r->P)(h:(if ((a&&i) || ((b&&e) || ((c&&d) || u6)))=V then p else q)=Y r):P:=by cases a<;>cases i<;>cases b<;>cases e<;>cases c<;>cases d<;>cases u6<;>simp_all [ia]
theorem slot_0(s:St):ph s 0=s.env.get 0:=rfl
theorem slot_1(s:St):ph s 1=s.env.get 1:=rfl
theorem slot_2(s:St):ph s 2=s.env.get 2:=rfl
theorem slot_3(s:St):ph s 3=s.env.get 3:=rfl
theorem slot_4(s:St):ph s 4=s.env.get 4:=rfl
theorem slot_14(s:St):ph s 14=s.env.get 14:=rfl
theorem slot_19(s:St):ph s 19=s.env.get 19:=rfl
theorem slot_20(s:St):ph s 20=s.env.get 20:=rfl
theorem slot_21(s:St):ph s 21=s.env.get 21:=rfl
theorem q0h(s:St):ph s 2003=match s.env.get 3 with| .ptr b o=>(match s.heap.get b with|some (.box c)=>(match c[o+1]? with|some v=>v|none=> .undef)|_=> .undef)|_=> .undef:=rfl
theorem q0i(s:St):ph s 3000=match s.env.get 0 with| .ptr b o=>(match s.heap.get b with|some (.box c)=>(match c[o+2]? with|some v=>v|none=> .undef)|_=> .undef)|_=> .undef:=rfl
theorem q0j(s:St):ph s 4000=match s.env.get 0 with| .ptr b o=>(match s.heap.get b with|some (.box c)=>(match c[o+3]? with|some v=>v|none=> .undef)|_=> .undef)|_=> .undef:=rfl
theorem q0k(s:St):ph s 4003=match s.env.get 3 with| .ptr b o=>(match s.heap.get b with|some (.box c)=>(match c[o+3]? with|some v=>v|none=> .undef)|_=> .undef)|_=> .undef:=rfl
theorem q0l(s:St):ph s 5000=match s.env.get 0 with| .ptr b o=>(match s.heap.get b with|some (.box c)=>(match c[o+4]? with|some v=>v|none=> .undef)|_=> .undef)|_=> .undef:=rfl
theorem q0m(s:St):ph s 6000=match s.env.get 0 with| .ptr b o=>(match s.heap.get b with|some (.box c)=>(match c[o+5]? with|some v=>v|none=> .undef)|_=> .undef)|_=> .undef:=rfl
theorem natA(n:U):0+n=n:=U.zero_add n
def en:=PLift.up (A (A (A (A (A encx.down (A wordx.down @natA)) (A @Int.cast_ofNat_Int (A @List.append_nil.{0} @List.nil_append.{0}))) (A (A @q1b.{0} (A @List.map_append.{0,0} @e?.{0,0})) (A (A @List.map_nil.{0,0} @c_.{0,0}) (A @List.length_append.{0} @b?.{0})))) (A (A (A @List.length_nil.{0} (A @List.length_map.{0,0} @qm.qU)) (A @qg.qU (A @zf.qU @qI.qU))) (A (A @zQ.qU (A @zG.qU @qu.qU)) (A (A @qr.qU @qb.qU) (A @qv.qU @qf.qU))))) (A (A (A (A @pq.qU (A @qz.qU @zW.qU)) (A @zo.qU (A @qN.qU @zg.qU))) (A (A @xv.qU (A @qF.qU @xi.qU)) (A (A @wI.qU @kM.qU) (A @zi.qU @qc.qU)))) (A (A (A @xJ.qU (A @xI.qU @qT.qU)) (A @vV.qU (A @qo.qU @qd.qU))) (A (A @qE.qU (A @qj.qU @qe.Ai)) (A (A @qe.Td @qe.Gx) (A @qe.Gy @qe.qU))))))
end Go.Proofs.YtadahlbndbmdeaaGreat
