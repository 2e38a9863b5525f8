/-
  The functions as plain Lean functions.
-/
import Derived.Test.YtkbgphcebakcnaaGreatEag
set_option linter.unusedSimpArgs false
set_option linter.unusedVariables false
set_option maxRecDepth 100000
namespace Go.Proofs.YtkbgphcebakcnaaGreat
open Go Go.Gm
def q6d (x : Int) (n : Int) : Option ((Int)) :=
 if (IntKind.u64.wrap n) ≠ 0 then
  some (IntKind.i64.wrap ((IntKind.u64.wrap x).tmod (IntKind.u64.wrap n)))
 else none
def q2n (s : Bytes) (t : Bytes) : Option ((T.State)) :=
 if s.length + t.length ≤ 2 ^ 62 then
  if (s ++ t).length + s.length ≤ 2 ^ 62 then
   some (T.State.mk ((s ++ t) ++ s) (⟨false,[(T.Sel.mk 0 0)]⟩ : (Sl T.Sel)) (⟨false,[(T.qf.mk 1 (⟨false,[(T.qa.mk (T.Span.mk 0 (IntKind.i64.wrap ((s.length : Int) + (IntKind.i64.wrap ((s.length : Int) + (t.length : Int)))))) (⟨false,[(T.Stop.mk (T.Span.mk 0 (s.length : Int)) 1 (-1) true false (T.Form.mk (T.Rx.mk 0 ([] : Bytes) false (⟨true,[]⟩ : (Sl T.Row)) 0 0 false (⟨true,[]⟩ : (Sl T.Rx))) (⟨true,[]⟩ : (Sl T.Fmt)) false false) (⟨true,[]⟩ : (Sl Bytes))),(T.Stop.mk (T.Span.mk (IntKind.i64.wrap ((s.length : Int) + (t.length : Int))) (IntKind.i64.wrap ((IntKind.i64.wrap ((s.length : Int) + (t.length : Int))) + (s.length : Int)))) 1 (-1) false false (T.Form.mk (T.Rx.mk 0 ([] : Bytes) false (⟨true,[]⟩ : (Sl T.Row)) 0 0 false (⟨true,[]⟩ : (Sl T.Rx))) (⟨true,[]⟩ : (Sl T.Fmt)) false false) (⟨true,[]⟩ : (Sl Bytes)))]⟩ : (Sl T.Stop)))]⟩ : (Sl T.qa)))]⟩ : (Sl T.qf)))
  else none
 else none
def q04 (s : T.Sel) : Option ((T.Span)) :=
 some (T.Span.mk (if s.head < s.anchor then s.head else s.anchor) (if s.head > s.anchor then s.head else s.anchor))
def q1d (s : T.Span) (n : Int) : Option ((Bool)) :=
 if ((decide (s.frm ≥ 0)) && (decide (s.frm ≤ s.to))) then
  some (decide (s.to ≤ n))
 else
  some false
def q3a : (Int × (Sl T.Sel) × (Sl T.Sel) × Int × Int) → Option ((((Sl T.Sel) × Int) ⊕ (Unit)))
 | (n,l,t14,t15,t16) =>
  if (decide (t16 < t15)) then
   q9 t14.l t16 >>= fun x3 =>
   q04 x3 >>= fun v5 =>
   q1d v5 n >>= fun v7 =>
   if (!v7) then
    some (.inl ((⟨true,([] : List T.Sel)⟩ : Sl T.Sel),3))
   else
    q3a (n,l,t14,t15,(IntKind.i64.wrap (t16 + 1)))
  else
   some (.inr ())
 partial_fixpoint
def q0m (s : (Sl T.Sel)) : Option ((((Sl T.Sel)) ⊕ ((List T.Sel)))) :=
 if s.nil then
  some (.inl (⟨true,([] : List T.Sel)⟩ : Sl T.Sel))
 else
  if qj (s.l.length) 16 = true then
   some (.inr s.l)
  else none
def cmp_isNaN_int (x : Int) : Option ((Bool)) :=
 some (x != x)
def cmp_Compare_int (x : Int) (y : Int) : Option ((Int)) :=
 cmp_isNaN_int x >>= fun v2 =>
 cmp_isNaN_int y >>= fun v4 =>
 if v2 then
  if v4 then
   some 0
  else
   some (-1)
 else
 if v4 then
  some 1
 else
 if (decide (x < y)) then
  some (-1)
 else
 if (decide (x > y)) then
  some 1
 else
  some 0
def q27 : (Int × Int × Int × (List Int)) → Option (((Int) ⊕ (Unit)))
 | (zero,t7,t8,t6) =>
  if (decide (t8 < t7)) then
   q9 t6 t8 >>= fun x3 =>
   if (x3 != zero) then
    some (.inl x3)
   else
    q27 (zero,t7,(IntKind.i64.wrap (t8 + 1)),t6)
  else
   some (.inr ())
 partial_fixpoint
def q1g (r_ : (List Int)) : Option ((Int)) :=
 q27 (0,(r_.length : Int),0,r_) >>= fun v2 =>
 match v2 with
 | .inl y3 =>
  some y3
 | .inr y4 =>
  some 0
def q5o (a : T.Sel) (b : T.Sel) : Option ((Int)) :=
 q04 a >>= fun v2 =>
 q04 b >>= fun v4 =>
 cmp_Compare_int v2.frm v4.frm >>= fun v6 =>
 cmp_Compare_int v2.to v4.to >>= fun v8 =>
 q1g [v6,v8] >>= fun v10 =>
 some v10
def qbc (data : (Sl T.Sel)) (a : Int) (b : Int) (i : Int) (j : Int) : Option ((Unit)) :=
 if (decide (j > a)) then
  q9 data.l j >>= fun x3 =>
  q9 data.l (IntKind.i64.wrap (j - 1)) >>= fun x5 =>
  q5o x3 x5 >>= fun v7 =>
  if (decide (v7 < 0)) then
   none
  else
   some ()
 else
  some ()
def q7u : ((Sl T.Sel) × Int × Int × Int) → Option ((Unit))
 | (data,a,b,i) =>
  if (decide (i < b)) then
   qbc data a b i i >>= fun v3 =>
   q7u (data,a,b,(IntKind.i64.wrap (i + 1)))
  else
   some ()
 partial_fixpoint
def qa9 (data : (Sl T.Sel)) (a : Int) (b : Int) : Option ((Unit)) :=
 q7u (data,a,b,(IntKind.i64.wrap (a + 1))) >>= fun v2 =>
 some ()
def q8m : ((Sl T.Sel) × Int × Int × Int × Int) → Option ((Int))
 | (data,n,blockSize,a,b) =>
  if (decide (b ≤ n)) then
   qa9 data a b >>= fun v3 =>
   q8m (data,n,blockSize,b,(IntKind.i64.wrap (b + blockSize)))
  else
   some a
 partial_fixpoint
def qbw (data : (Sl T.Sel)) (n : Int) (blockSize : Int) (a : Int) (b : Int) : Option ((Unit)) :=
 if (decide (b ≤ n)) then
  none
 else
  some ()
def q8o : ((Sl T.Sel) × Int × Int) → Option ((Unit))
 | (data,n,blockSize) =>
  if (decide (blockSize < n)) then
   qbw data n blockSize 0 (IntKind.i64.wrap (2 * blockSize)) >>= fun v3 =>
   if (decide ((IntKind.i64.wrap (0 + blockSize)) < n)) then
    none
   else
    q8o (data,n,(IntKind.i64.wrap (blockSize * 2)))
  else
   some ()
 partial_fixpoint
def qcu (data : (Sl T.Sel)) (n : Int) : Option ((Unit)) :=
 q8m (data,n,20,0,20) >>= fun v2 =>
 qa9 data v2 n >>= fun v4 =>
 q8o (data,n,20) >>= fun v6 =>
 some ()
def qe3 (x : (Sl T.Sel)) : Option ((Unit)) :=
 qcu x (x.l.length : Int) >>= fun v2 =>
 some ()
def qad (a : T.Span) (b : T.Span) : Option ((Bool)) :=
 some (decide ((if b.frm > a.frm then b.frm else a.frm) ≤ (if b.to < a.to then b.to else a.to)))
def q1y : ((Sl T.Sel) × Int × Int × (List T.Sel)) → Option (((List T.Sel)))
 | (t14,t15,t16,out) =>
  if (decide (t16 < t15)) then
   q9 t14.l t16 >>= fun x3 =>
   if (decide ((IntKind.i64.wrap ((out.length : Int) - 1)) < 0)) then
    if qj (out.length + 1) 16 = true then
     q1y (t14,t15,(IntKind.i64.wrap (t16 + 1)),(out ++ [x3]))
    else none
   else
    q9 out (IntKind.i64.wrap ((out.length : Int) - 1)) >>= fun x7 =>
    q04 x7 >>= fun v9 =>
    q04 x3 >>= fun v11 =>
    qad v9 v11 >>= fun v13 =>
    if (!v13) then
     if qj (out.length + 1) 16 = true then
      q1y (t14,t15,(IntKind.i64.wrap (t16 + 1)),(out ++ [x3]))
     else none
    else
    if (decide (x7.head < x7.anchor)) then
     q1y (t14,t15,(IntKind.i64.wrap (t16 + 1)),(out.set ((IntKind.i64.wrap ((out.length : Int) - (1 : Int))).toNat) (T.Sel.mk (if v11.to > v9.to then v11.to else v9.to) v9.frm)))
    else
     q1y (t14,t15,(IntKind.i64.wrap (t16 + 1)),(out.set ((IntKind.i64.wrap ((out.length : Int) - (1 : Int))).toNat) (T.Sel.mk v9.frm (if v11.to > v9.to then v11.to else v9.to))))
  else
   some out
 partial_fixpoint
def q36 : (Int × Int × Int × Int × (List T.Sel)) → Option (((List T.Sel)))
 | (a,b,i,j,data) =>
  if (decide (j > a)) then
   q9 data j >>= fun x3 =>
   q9 data (IntKind.i64.wrap (j - 1)) >>= fun x5 =>
   q5o x3 x5 >>= fun v7 =>
   if (decide (v7 < 0)) then
    q9 (data.set j.toNat x5) (IntKind.i64.wrap (j - 1)) >>= fun x10 =>
    q36 (a,b,i,(IntKind.i64.wrap (j - 1)),((data.set j.toNat x5).set ((IntKind.i64.wrap (j - (1 : Int))).toNat) x3))
   else
    some data
  else
   some data
 partial_fixpoint
def q2p : (Int × Int × Int × (List T.Sel)) → Option (((List T.Sel)))
 | (a,b,i,data) =>
  if (decide (i < b)) then
   q36 (a,b,i,i,data) >>= fun v3 =>
   q2p (a,b,(IntKind.i64.wrap (i + 1)),v3)
  else
   some data
 partial_fixpoint
def q7h (a : Int) (b : Int) (r_ : (List T.Sel)) : Option (((List T.Sel))) :=
 q2p (a,b,(IntKind.i64.wrap (a + 1)),r_) >>= fun v2 =>
 some v2
def q5u : (Int × Int × Int × Int × (List T.Sel)) → Option ((Int × (List T.Sel)))
 | (n,blockSize,a,b,data) =>
  if (decide (b ≤ n)) then
   q7h a b data >>= fun v3 =>
   q5u (n,blockSize,b,(IntKind.i64.wrap (b + blockSize)),v3)
  else
   some (a,data)
 partial_fixpoint
def qcy (n : Int) (blockSize : Int) (a : Int) (b : Int) (data : (List T.Sel)) : Option ((Unit)) :=
 if (decide (b ≤ n)) then
  none
 else
  some ()
def q64 : (Int × Int × (List T.Sel)) → Option ((Unit))
 | (n,blockSize,data) =>
  if (decide (blockSize < n)) then
   qcy n blockSize 0 (IntKind.i64.wrap (2 * blockSize)) data >>= fun v3 =>
   if (decide ((IntKind.i64.wrap (0 + blockSize)) < n)) then
    none
   else
    q64 (n,(IntKind.i64.wrap (blockSize * 2)),data)
  else
   some ()
 partial_fixpoint
def q9z (n : Int) (r_ : (List T.Sel)) : Option (((List T.Sel))) :=
 q5u (n,20,0,20,r_) >>= fun v2 =>
 q7h v2.1 n v2.2 >>= fun v4 =>
 q64 (n,20,v4) >>= fun v6 =>
 some v4
def q6r (r_ : (List T.Sel)) : Option (((List T.Sel))) :=
 q9z (r_.length : Int) r_ >>= fun v2 =>
 some v2
def yu : (Int × Int × (List T.Sel) × (List T.Sel)) → Option (((List T.Sel)))
 | (t15,t16,t14,out) =>
  if (decide (t16 < t15)) then
   q9 t14 t16 >>= fun x3 =>
   if (decide ((IntKind.i64.wrap ((out.length : Int) - 1)) < 0)) then
    if qj (out.length + 1) 16 = true then
     yu (t15,(IntKind.i64.wrap (t16 + 1)),t14,(out ++ [x3]))
    else none
   else
    q9 out (IntKind.i64.wrap ((out.length : Int) - 1)) >>= fun x7 =>
    q04 x7 >>= fun v9 =>
    q04 x3 >>= fun v11 =>
    qad v9 v11 >>= fun v13 =>
    if (!v13) then
     if qj (out.length + 1) 16 = true then
      yu (t15,(IntKind.i64.wrap (t16 + 1)),t14,(out ++ [x3]))
     else none
    else
    if (decide (x7.head < x7.anchor)) then
     yu (t15,(IntKind.i64.wrap (t16 + 1)),t14,(out.set ((IntKind.i64.wrap ((out.length : Int) - (1 : Int))).toNat) (T.Sel.mk (if v11.to > v9.to then v11.to else v9.to) v9.frm)))
    else
     yu (t15,(IntKind.i64.wrap (t16 + 1)),t14,(out.set ((IntKind.i64.wrap ((out.length : Int) - (1 : Int))).toNat) (T.Sel.mk v9.frm (if v11.to > v9.to then v11.to else v9.to))))
  else
   some out
 partial_fixpoint
def q25 (l : (Sl T.Sel)) : Option (((Sl T.Sel))) :=
 q0m l >>= fun v2 =>
 match v2 with
 | .inl y3 =>
  qe3 y3 >>= fun v5 =>
  q1y (y3,(y3.l.length : Int),0,([] : List T.Sel)) >>= fun v7 =>
  some (⟨v7.isEmpty,v7⟩ : Sl T.Sel)
 | .inr y8 =>
  q6r y8 >>= fun v10 =>
  yu ((v10.length : Int),0,v10,([] : List T.Sel)) >>= fun v12 =>
  some (⟨v12.isEmpty,v12⟩ : Sl T.Sel)
def q7z (n : Int) (l : (Sl T.Sel)) : Option (((Sl T.Sel) × Int)) :=
 if ((l.l.length : Int) == 0) then
  some ((⟨true,([] : List T.Sel)⟩ : Sl T.Sel),2)
 else
 if (decide ((l.l.length : Int) > 64)) then
  some ((⟨true,([] : List T.Sel)⟩ : Sl T.Sel),7)
 else
  q3a (n,l,l,(l.l.length : Int),0) >>= fun v4 =>
  match v4 with
  | .inl y5 =>
   some (y5.1,y5.2)
  | .inr y6 =>
   q25 l >>= fun v8 =>
   some (v8,0)
def q3d : ((Sl T.Sel) × (Sl T.Sel) × Int × Int) → Option (((Bool) ⊕ (Unit)))
 | (s1,s2,t12,t13) =>
  if (decide (t13 < t12)) then
   q9 s1.l t13 >>= fun x3 =>
   q9 s2.l t13 >>= fun x5 =>
   if (!(x3.anchor == x5.anchor && (x3.head == x5.head))) then
    some (.inl false)
   else
    q3d (s1,s2,t12,(IntKind.i64.wrap (t13 + 1)))
  else
   some (.inr ())
 partial_fixpoint
def q7o (s1 : (Sl T.Sel)) (s2 : (Sl T.Sel)) : Option ((Bool)) :=
 if ((s1.l.length : Int) != (s2.l.length : Int)) then
  some false
 else
  q3d (s1,s2,(s1.l.length : Int),0) >>= fun v3 =>
  match v3 with
  | .inl y4 =>
   some y4
  | .inr y5 =>
   some true
def q2f (i : T.qa) (k : Int) : Option ((Int)) :=
 q9 i.stops.l k >>= fun x2 =>
 if ((decide (x2.up ≥ 0)) && (decide (x2.up < k))) then
  some x2.up
 else
  some (-1)
def q1v : (Int × Int × T.qa) → Option (((Bool) ⊕ (Unit)))
 | (k,u,i) =>
  if (decide (u ≥ 0)) then
   q9 i.stops.l k >>= fun x3 =>
   if (x3.up == u) then
    some (.inl true)
   else
    q2f i u >>= fun v6 =>
    q1v (k,v6,i)
  else
   some (.inr ())
 partial_fixpoint
def q6n (i : T.qa) (k : Int) : Option ((Bool)) :=
 q1v (k,(IntKind.i64.wrap (k - 1)),i) >>= fun v2 =>
 match v2 with
 | .inl y3 =>
  some y3
 | .inr y4 =>
  q9 i.stops.l k >>= fun x6 =>
  some (x6.up == (-1))
def q0x (a : T.Span) (b : T.Span) : Option ((Bool)) :=
 if (decide (a.frm ≥ b.frm)) then
  some (decide (a.to ≤ b.to))
 else
  some false
def q12 : ((Sl T.Stop) × Int × Int × T.qa × ze) → Option (((Bool × ze) ⊕ (ze)))
 | (t18,t19,t20,i,ends) =>
  if (decide (t20 < t19)) then
   q9 t18.l t20 >>= fun x3 =>
   q6n i t20 >>= fun v5 =>
   if ((!v5) || (decide (x3.span.frm > x3.span.to))) then
    some (.inl (false,ends))
   else
   if (decide (x3.up ≥ 0)) then
    q9 i.stops.l x3.up >>= fun x10 =>
    q0x x3.span x10.span >>= fun v12 =>
    if ((!v12) || ((q3m ends x3.up) && (decide (x3.span.frm < (xy ends x3.up))))) then
     some (.inl (false,ends))
    else
     q12 (t18,t19,(IntKind.i64.wrap (t20 + 1)),i,(vw ends x3.up x3.span.to))
   else
    q0x x3.span i.span >>= fun v17 =>
    if ((!v17) || ((q3m ends x3.up) && (decide (x3.span.frm < (xy ends x3.up))))) then
     some (.inl (false,ends))
    else
     q12 (t18,t19,(IntKind.i64.wrap (t20 + 1)),i,(vw ends x3.up x3.span.to))
  else
   some (.inr ends)
 partial_fixpoint
def q7n (i : T.qa) (n : Int) : Option ((Bool)) :=
 q1d i.span n >>= fun v2 =>
 if (!v2) then
  some false
 else
  q12 (i.stops,(i.stops.l.length : Int),0,i,(⟨[],0⟩ : ze)) >>= fun v5 =>
  match v5 with
  | .inl y6 =>
   some y6.1
  | .inr y7 =>
   some true
def qcp (y : T.Span) (b : T.Span) : Option ((Bool)) :=
 q0x b y >>= fun v2 =>
 some v2
def q6w : ((Sl T.Span) × Int × Int × T.Span) → Option (((Int) ⊕ (Unit)))
 | (s,t7,t8,f) =>
  if (decide (t8 < t7)) then
   q9 s.l t8 >>= fun x3 =>
   qcp x3 f >>= fun v5 =>
   if v5 then
    some (.inl t8)
   else
    q6w (s,t7,(IntKind.i64.wrap (t8 + 1)),f)
  else
   some (.inr ())
 partial_fixpoint
def qd6 (s : (Sl T.Span)) (b : T.Span) : Option ((Int)) :=
 q6w (s,(s.l.length : Int),0,b) >>= fun v2 =>
 match v2 with
 | .inl y3 =>
  some y3
 | .inr y4 =>
  some (-1)
def qck (s : (Sl T.Span)) (b : T.Span) : Option ((Bool)) :=
 qd6 s b >>= fun v2 =>
 some (decide (v2 ≥ 0))
def q96 (x : T.Span) (in_ : (Sl T.Span)) : Option ((Bool)) :=
 qck in_ x >>= fun v2 =>
 some v2
def q1m : (Int × (Sl T.Span) × Int × Int × (Sl T.qf) × Int × Int × (Sl T.qa) × Int × Int × T.State × T.qf) → Option (((Bool) ⊕ (Unit)))
 | (n,around,k,end_,t42,t43,t44,t54,t55,t56,b0_,s) =>
  if (decide (t56 < t55)) then
   q9 t54.l t56 >>= fun x3 =>
   q7n x3 n >>= fun v5 =>
   if ((!v5) || (decide (x3.span.frm < end_))) then
    some (.inl false)
   else
   if (decide (k > 0)) then
    q96 x3.span around >>= fun v10 =>
    if (!v10) then
     some (.inl false)
    else
     q1m (n,around,k,x3.span.to,t42,t43,t44,t54,t55,(IntKind.i64.wrap (t56 + 1)),b0_,s)
   else
    q1m (n,around,k,x3.span.to,t42,t43,t44,t54,t55,(IntKind.i64.wrap (t56 + 1)),b0_,s)
  else
   some (.inr ())
 partial_fixpoint
def q10 : (Int × (Sl T.qa) × Int × Int × (Sl T.Stop) × Int × Int × (List T.Span) × T.qa) → Option (((List T.Span)))
 | (n,t10,t11,t12,t17,t18,t19,out,b1_) =>
  if (decide (t19 < t18)) then
   q9 t17.l t19 >>= fun x3 =>
   if ((x3.n == n) && (!x3.turned)) then
    if qj (out.length + 1) 16 = true then
     q10 (n,t10,t11,t12,t17,t18,(IntKind.i64.wrap (t19 + 1)),(out ++ [x3.span]),b1_)
    else none
   else
    q10 (n,t10,t11,t12,t17,t18,(IntKind.i64.wrap (t19 + 1)),out,b1_)
  else
   some out
 partial_fixpoint
def q3o : (Int × (Sl T.qa) × Int × Int × (List T.Span)) → Option (((List T.Span)))
 | (n,t10,t11,t12,out) =>
  if (decide (t12 < t11)) then
   q9 t10.l t12 >>= fun x3 =>
   q10 (n,t10,t11,t12,x3.stops,(x3.stops.l.length : Int),0,out,x3) >>= fun v5 =>
   q3o (n,t10,t11,(IntKind.i64.wrap (t12 + 1)),v5)
  else
   some out
 partial_fixpoint
def q6f (n : Int) (is : (Sl T.qa)) : Option (((Sl T.Span))) :=
 q3o (n,is,(is.l.length : Int),0,([] : List T.Span)) >>= fun v2 =>
 some (⟨v2.isEmpty,v2⟩ : Sl T.Span)
def q4a : (Int × (Sl T.Span) × (Sl T.qf) × Int × Int × T.State) → Option (((Bool) ⊕ (Unit)))
 | (n,around,t42,t43,t44,b0_) =>
  if (decide (t44 < t43)) then
   q9 t42.l t44 >>= fun x3 =>
   if ((x3.insts.l.length : Int) == 0) then
    some (.inl false)
   else
    q1m (n,around,t44,0,t42,t43,t44,x3.insts,(x3.insts.l.length : Int),0,b0_,x3) >>= fun v6 =>
    match v6 with
    | .inl y7 =>
     some (.inl y7)
    | .inr y8 =>
     q6f x3.cur x3.insts >>= fun v10 =>
     q4a (n,v10,t42,t43,(IntKind.i64.wrap (t44 + 1)),b0_)
  else
   some (.inr ())
 partial_fixpoint
def q8s (st : T.State) : Option ((Bool)) :=
 q7z (st.text.length : Int) st.sels >>= fun v2 =>
 if ((decide ((st.text.length : Int) > 65536)) || (v2.2 != 0)) then
  some false
 else
  q7o v2.1 st.sels >>= fun v6 =>
  if ((!v6) || (decide ((st.sessions.l.length : Int) > 8))) then
   some false
  else
   q4a ((st.text.length : Int),(⟨true,([] : List T.Span)⟩ : Sl T.Span),st.sessions,(st.sessions.l.length : Int),0,st) >>= fun v10 =>
   match v10 with
   | .inl y11 =>
    some y11
   | .inr y12 =>
    some true
def q4b : (Int × (Sl T.qb) × (Sl T.qb) × Int × Int) → Option (((Int) ⊕ (Unit)))
 | (n,es,t7,t8,t9) =>
  if (decide (t9 < t8)) then
   q9 t7.l t9 >>= fun x3 =>
   q1d x3.span n >>= fun v5 =>
   if (!v5) then
    some (.inl 3)
   else
    q4b (n,es,t7,t8,(IntKind.i64.wrap (t9 + 1)))
  else
   some (.inr ())
 partial_fixpoint
def q2t : ((Sl T.qb) × Int × Int × (List T.Span)) → Option (((List T.Span)))
 | (t6,t7,t8,out) =>
  if (decide (t8 < t7)) then
   q9 t6.l t8 >>= fun x3 =>
   if qj (out.length + 1) 16 = true then
    q2t (t6,t7,(IntKind.i64.wrap (t8 + 1)),(out ++ [x3.span]))
   else none
  else
   some out
 partial_fixpoint
def q6l (es : (Sl T.qb)) : Option (((Sl T.Span))) :=
 q2t (es,(es.l.length : Int),0,([] : List T.Span)) >>= fun v2 =>
 some (⟨v2.isEmpty,v2⟩ : Sl T.Span)
def q94 (s : (Sl T.Span)) : Option ((((Sl T.Span)) ⊕ ((List T.Span)))) :=
 if s.nil then
  some (.inl (⟨true,([] : List T.Span)⟩ : Sl T.Span))
 else
  if qj (s.l.length) 16 = true then
   some (.inr s.l)
  else none
def q5n (a : T.Span) (b : T.Span) : Option ((Int)) :=
 cmp_Compare_int a.frm b.frm >>= fun v2 =>
 cmp_Compare_int a.to b.to >>= fun v4 =>
 q1g [v2,v4] >>= fun v6 =>
 some v6
def qbu (data : (Sl T.Span)) (a : Int) (b : Int) (i : Int) (j : Int) : Option ((Unit)) :=
 if (decide (j > a)) then
  q9 data.l j >>= fun x3 =>
  q9 data.l (IntKind.i64.wrap (j - 1)) >>= fun x5 =>
  q5n x3 x5 >>= fun v7 =>
  if (decide (v7 < 0)) then
   none
  else
   some ()
 else
  some ()
def q8b : ((Sl T.Span) × Int × Int × Int) → Option ((Unit))
 | (data,a,b,i) =>
  if (decide (i < b)) then
   qbu data a b i i >>= fun v3 =>
   q8b (data,a,b,(IntKind.i64.wrap (i + 1)))
  else
   some ()
 partial_fixpoint
def q9k (data : (Sl T.Span)) (a : Int) (b : Int) : Option ((Unit)) :=
 q8b (data,a,b,(IntKind.i64.wrap (a + 1))) >>= fun v2 =>
 some ()
def q7j : ((Sl T.Span) × Int × Int × Int × Int) → Option ((Int))
 | (data,n,blockSize,a,b) =>
  if (decide (b ≤ n)) then
   q9k data a b >>= fun v3 =>
   q7j (data,n,blockSize,b,(IntKind.i64.wrap (b + blockSize)))
  else
   some a
 partial_fixpoint
def qch (data : (Sl T.Span)) (n : Int) (blockSize : Int) (a : Int) (b : Int) : Option ((Unit)) :=
 if (decide (b ≤ n)) then
  none
 else
  some ()
def q7p : ((Sl T.Span) × Int × Int) → Option ((Unit))
 | (data,n,blockSize) =>
  if (decide (blockSize < n)) then
   qch data n blockSize 0 (IntKind.i64.wrap (2 * blockSize)) >>= fun v3 =>
   if (decide ((IntKind.i64.wrap (0 + blockSize)) < n)) then
    none
   else
    q7p (data,n,(IntKind.i64.wrap (blockSize * 2)))
  else
   some ()
 partial_fixpoint
def qdw (data : (Sl T.Span)) (n : Int) : Option ((Unit)) :=
 q7j (data,n,20,0,20) >>= fun v2 =>
 q9k data v2 n >>= fun v4 =>
 q7p (data,n,20) >>= fun v6 =>
 some ()
def qe2 (x : (Sl T.Span)) : Option ((Unit)) :=
 qdw x (x.l.length : Int) >>= fun v2 =>
 some ()
def q5a : ((Sl T.Span) × (Sl T.Span) × Int × Int) → Option (((Bool) ⊕ (Unit)))
 | (in_,t10,t11,t12) =>
  if (decide (t12 < t11)) then
   q9 t10.l t12 >>= fun x3 =>
   if (decide (x3.frm > x3.to)) then
    some (.inl false)
   else
   if (decide (t12 > 0)) then
    q9 in_.l (IntKind.i64.wrap (t12 - 1)) >>= fun x7 =>
    if (x3.frm == x7.frm) then
     some (.inl false)
    else
    if (decide (x3.frm < x7.to)) then
     some (.inl false)
    else
     q5a (in_,t10,t11,(IntKind.i64.wrap (t12 + 1)))
   else
    q5a (in_,t10,t11,(IntKind.i64.wrap (t12 + 1)))
  else
   some (.inr ())
 partial_fixpoint
def q3w : (Int × Int × Int × Int × (List T.Span)) → Option (((List T.Span)))
 | (a,b,i,j,data) =>
  if (decide (j > a)) then
   q9 data j >>= fun x3 =>
   q9 data (IntKind.i64.wrap (j - 1)) >>= fun x5 =>
   q5n x3 x5 >>= fun v7 =>
   if (decide (v7 < 0)) then
    q9 (data.set j.toNat x5) (IntKind.i64.wrap (j - 1)) >>= fun x10 =>
    q3w (a,b,i,(IntKind.i64.wrap (j - 1)),((data.set j.toNat x5).set ((IntKind.i64.wrap (j - (1 : Int))).toNat) x3))
   else
    some data
  else
   some data
 partial_fixpoint
def q2x : (Int × Int × Int × (List T.Span)) → Option (((List T.Span)))
 | (a,b,i,data) =>
  if (decide (i < b)) then
   q3w (a,b,i,i,data) >>= fun v3 =>
   q2x (a,b,(IntKind.i64.wrap (i + 1)),v3)
  else
   some data
 partial_fixpoint
def q8r (a : Int) (b : Int) (r_ : (List T.Span)) : Option (((List T.Span))) :=
 q2x (a,b,(IntKind.i64.wrap (a + 1)),r_) >>= fun v2 =>
 some v2
def q5i : (Int × Int × Int × Int × (List T.Span)) → Option ((Int × (List T.Span)))
 | (n,blockSize,a,b,data) =>
  if (decide (b ≤ n)) then
   q8r a b data >>= fun v3 =>
   q5i (n,blockSize,b,(IntKind.i64.wrap (b + blockSize)),v3)
  else
   some (a,data)
 partial_fixpoint
def qbo (n : Int) (blockSize : Int) (a : Int) (b : Int) (data : (List T.Span)) : Option ((Unit)) :=
 if (decide (b ≤ n)) then
  none
 else
  some ()
def q4q : (Int × Int × (List T.Span)) → Option ((Unit))
 | (n,blockSize,data) =>
  if (decide (blockSize < n)) then
   qbo n blockSize 0 (IntKind.i64.wrap (2 * blockSize)) data >>= fun v3 =>
   if (decide ((IntKind.i64.wrap (0 + blockSize)) < n)) then
    none
   else
    q4q (n,(IntKind.i64.wrap (blockSize * 2)),data)
  else
   some ()
 partial_fixpoint
def q9c (n : Int) (r_ : (List T.Span)) : Option (((List T.Span))) :=
 q5i (n,20,0,20,r_) >>= fun v2 =>
 q8r v2.1 n v2.2 >>= fun v4 =>
 q4q (n,20,v4) >>= fun v6 =>
 some v4
def q70 (r_ : (List T.Span)) : Option (((List T.Span))) :=
 q9c (r_.length : Int) r_ >>= fun v2 =>
 some v2
def q20 : (Int × Int × (List T.Span)) → Option (((Bool) ⊕ (Unit)))
 | (t11,t12,in_) =>
  if (decide (t12 < t11)) then
   q9 in_ t12 >>= fun x3 =>
   if (decide (x3.frm > x3.to)) then
    some (.inl false)
   else
   if (decide (t12 > 0)) then
    q9 in_ (IntKind.i64.wrap (t12 - 1)) >>= fun x7 =>
    if (x3.frm == x7.frm) then
     some (.inl false)
    else
    if (decide (x3.frm < x7.to)) then
     some (.inl false)
    else
     q20 (t11,(IntKind.i64.wrap (t12 + 1)),in_)
   else
    q20 (t11,(IntKind.i64.wrap (t12 + 1)),in_)
  else
   some (.inr ())
 partial_fixpoint
def q72 (l : (Sl T.Span)) : Option ((Bool)) :=
 q94 l >>= fun v2 =>
 match v2 with
 | .inl y3 =>
  qe2 y3 >>= fun v5 =>
  q5a (y3,y3,(y3.l.length : Int),0) >>= fun v7 =>
  match v7 with
  | .inl y8 =>
   some y8
  | .inr y9 =>
   some true
 | .inr y10 =>
  q70 y10 >>= fun v12 =>
  q20 ((v12.length : Int),0,v12) >>= fun v14 =>
  match v14 with
  | .inl y15 =>
   some y15
  | .inr y16 =>
   some true
def kv (s : T.Span) : Option ((Int)) :=
 some (IntKind.i64.wrap (s.to - s.frm))
def q43 : (Int × (Sl T.qb) × Int × Int) → Option ((Int))
 | (n,t7,t8,t9) =>
  if (decide (t9 < t8)) then
   q9 t7.l t9 >>= fun x3 =>
   kv x3.span >>= fun v5 =>
   q43 ((IntKind.i64.wrap (n + (IntKind.i64.wrap ((x3.text.length : Int) - v5)))),t7,t8,(IntKind.i64.wrap (t9 + 1)))
  else
   some n
 partial_fixpoint
def q8y (n : Int) (es : (Sl T.qb)) : Option ((Int)) :=
 q43 (n,es,(es.l.length : Int),0) >>= fun v2 =>
 some v2
def q7r (n : Int) (es : (Sl T.qb)) : Option ((Int)) :=
 q4b (n,es,es,(es.l.length : Int),0) >>= fun v2 =>
 match v2 with
 | .inl y3 =>
  some y3
 | .inr y4 =>
  q6l es >>= fun v6 =>
  q72 v6 >>= fun v8 =>
  if (!v8) then
   some 5
  else
   q8y n es >>= fun v11 =>
   if (decide (v11 > 65536)) then
    some 4
   else
    some 0
def qam (s : (Sl T.Row)) : Option (((Sl T.Row))) :=
 if s.nil then
  some (⟨true,([] : List T.Row)⟩ : Sl T.Row)
 else
  if qj (s.l.length) 32 = true then
   some (⟨false,s.l⟩ : Sl T.Row)
  else none
mutual
def q3t (x : T.Rx) : Option ((T.Rx)) :=
  qam x.rows >>= fun v2 =>
  q5f (x.kids,(x.kids.l.length : Int),0,(T.Rx.mk x.kind x.char x.not v2 x.min x.max x.lazy x.kids),(T.Rx.mk 0 ([] : Bytes) false (⟨true,([] : List T.Row)⟩ : (Sl T.Row)) 0 0 false (⟨true,([] : List T.Rx)⟩ : (Sl T.Rx))),([] : List T.Rx)) >>= fun v4 =>
  some (T.Rx.mk x.kind x.char x.not v2 x.min x.max x.lazy (⟨v4.isEmpty,v4⟩ : (Sl T.Rx)))
 partial_fixpoint
def q5f : ((Sl T.Rx) × Int × Int × T.Rx × T.Rx × (List T.Rx)) → Option (((List T.Rx)))
 | (t11,t12,t13,x,t2,kids) =>
  if (decide (t13 < t12)) then
   q9 t11.l t13 >>= fun x3 =>
   q3t x3 >>= fun v5 =>
   if qj (kids.length + 1) 104 = true then
    q5f (t11,t12,(IntKind.i64.wrap (t13 + 1)),x,t2,(kids ++ [v5]))
   else none
  else
   some kids
 partial_fixpoint
end
def qa8 (s : (Sl T.Fmt)) : Option (((Sl T.Fmt))) :=
 if s.nil then
  some (⟨true,([] : List T.Fmt)⟩ : Sl T.Fmt)
 else
  if qj (s.l.length) 56 = true then
   some (⟨false,s.l⟩ : Sl T.Fmt)
  else none
def q79 (f : T.Form) : Option ((T.Form)) :=
 q3t f.rx >>= fun v2 =>
 qa8 f.fmts >>= fun v4 =>
 some (T.Form.mk v2 v4 f.fold f.all)
def q8d (s : (Sl Bytes)) : Option (((Sl Bytes))) :=
 if s.nil then
  some (⟨true,([] : List Bytes)⟩ : Sl Bytes)
 else
  if qj (s.l.length) 16 = true then
   some (⟨false,s.l⟩ : Sl Bytes)
  else none
def q1u : ((Sl T.qa) × Int × Int × (Sl T.Stop) × Int × Int × T.qf × T.qf × (List T.qa) × T.qa × (List T.Stop)) → Option (((List T.Stop)))
 | (t10,t11,t12,t17,t18,t19,s,t2,insts,i,all_) =>
  if (decide (t19 < t18)) then
   q9 t17.l t19 >>= fun x3 =>
   q79 x3.form >>= fun v5 =>
   q8d x3.opts >>= fun v7 =>
   if qj (all_.length + 1) 200 = true then
    q1u (t10,t11,t12,t17,t18,(IntKind.i64.wrap (t19 + 1)),s,t2,insts,i,(all_ ++ [(T.Stop.mk x3.span x3.n x3.up x3.first x3.turned v5 v7)]))
   else none
  else
   some all_
 partial_fixpoint
def q3k : ((Sl T.qa) × Int × Int × T.qf × T.qf × (List T.qa)) → Option (((List T.qa)))
 | (t10,t11,t12,s,t2,insts) =>
  if (decide (t12 < t11)) then
   q9 t10.l t12 >>= fun x3 =>
   q1u (t10,t11,t12,x3.stops,(x3.stops.l.length : Int),0,s,t2,insts,x3,([] : List T.Stop)) >>= fun v5 =>
   if qj (insts.length + 1) 40 = true then
    q3k (t10,t11,(IntKind.i64.wrap (t12 + 1)),s,t2,(insts ++ [(T.qa.mk x3.span (⟨v5.isEmpty,v5⟩ : (Sl T.Stop)))]))
   else none
  else
   some insts
 partial_fixpoint
def q55 (s : T.qf) : Option ((T.qf)) :=
 q3k (s.insts,(s.insts.l.length : Int),0,s,(T.qf.mk 0 (⟨true,([] : List T.qa)⟩ : (Sl T.qa))),([] : List T.qa)) >>= fun v2 =>
 some (T.qf.mk s.cur (⟨v2.isEmpty,v2⟩ : (Sl T.qa)))
def q1i : ((Sl T.qa) × Int × Int × Int × Int × T.qf × T.qc × Int × (Sl T.qa) × (List (Sl T.qd)) × T.qa × (List T.qd)) → Option (((List T.qd)))
 | (t12,t13,t14,t23,t24,b0_,t2,out,out2,r3_,b4_,marks) =>
  if (decide (t24 < t23)) then
   q9 marks t24 >>= fun x3 =>
   q1i (t12,t13,t14,t23,(IntKind.i64.wrap (t24 + 1)),b0_,t2,out,out2,r3_,b4_,(marks.set t24.toNat (T.qd.mk t24 x3.held)))
  else
   some marks
 partial_fixpoint
def q47 : ((Sl T.qa) × Int × Int × T.qf × T.qc × Int × (Sl T.qa) × (List (Sl T.qd))) → Option (((List (Sl T.qd))))
 | (t12,t13,t14,b0_,t2,out,out2,r3_) =>
  if (decide (t14 < t13)) then
   q9 t12.l t14 >>= fun x3 =>
   if 0 ≤ (x3.stops.l.length : Int) then
    if qj (x3.stops.l.length : Int).toNat 16 = true then
     q1i (t12,t13,t14,((List.replicate (x3.stops.l.length : Int).toNat (T.qd.mk (0 : Int) false)).length : Int),(0 : Int),b0_,t2,out,out2,r3_,x3,(List.replicate (x3.stops.l.length : Int).toNat (T.qd.mk (0 : Int) false))) >>= fun v7 =>
     if qj (r3_.length + 1) 24 = true then
      q47 (t12,t13,(IntKind.i64.wrap (t14 + (1 : Int))),b0_,t2,out,out2,(r3_ ++ [(⟨false,v7⟩ : (Sl T.qd))]))
     else none
    else none
   else none
  else
   some r3_
 partial_fixpoint
def q5t (s : T.qf) : Option ((T.qc)) :=
 q55 s >>= fun v2 =>
 q47 (s.insts,(s.insts.l.length : Int),0,s,(T.qc.mk (T.qf.mk 0 (⟨true,([] : List T.qa)⟩ : (Sl T.qa))) (⟨true,([] : List (Sl T.qd))⟩ : (Sl (Sl T.qd)))),v2.cur,v2.insts,([] : List (Sl T.qd))) >>= fun v4 =>
 some (T.qc.mk v2 (⟨v4.isEmpty,v4⟩ : (Sl (Sl T.qd))))
def qct (s : T.qf) (b : Bytes) (b_2 : (Sl T.Sel)) (r_ : (List T.qc)) : Option (((List T.qc))) :=
 q5t s >>= fun v2 =>
 if qj (r_.length + 1) 56 = true then
  some (r_ ++ [v2])
 else none
def q8q : ((Sl T.qf) × Int × Int × T.State × Bytes × (Sl T.Sel) × (List T.qc)) → Option (((List T.qc)))
 | (t14,t15,t16,b0_,w,w2,r2_) =>
  if (decide (t16 < t15)) then
   q9 t14.l t16 >>= fun x3 =>
   qct x3 w w2 r2_ >>= fun v5 =>
   q8q (t14,t15,(IntKind.i64.wrap (t16 + 1)),b0_,w,w2,v5)
  else
   some r2_
 partial_fixpoint
def q9d (s : T.qf) (b : Bytes) (r_ : (List T.Sel)) (r_2 : (List T.qc)) : Option (((List T.qc))) :=
 q5t s >>= fun v2 =>
 if qj (r_2.length + 1) 56 = true then
  some (r_2 ++ [v2])
 else none
def q2q : ((Sl T.qf) × Int × Int × T.State × (List T.Sel) × Bytes × (List T.qc)) → Option (((List T.qc)))
 | (t14,t15,t16,b0_,r1_,w,r3_) =>
  if (decide (t16 < t15)) then
   q9 t14.l t16 >>= fun x3 =>
   q9d x3 w r1_ r3_ >>= fun v5 =>
   q2q (t14,t15,(IntKind.i64.wrap (t16 + 1)),b0_,r1_,w,v5)
  else
   some r3_
 partial_fixpoint
def q80 (st : T.State) : Option (((Bytes × (Sl T.Sel) × (List T.qc)) ⊕ (Bytes × (List T.Sel) × (List T.qc)))) :=
 q0m st.sels >>= fun v2 =>
 match v2 with
 | .inl y3 =>
  q8q (st.sessions,(st.sessions.l.length : Int),0,st,st.text,y3,([] : List T.qc)) >>= fun v5 =>
  some (.inl (st.text,y3,v5))
 | .inr y6 =>
  q2q (st.sessions,(st.sessions.l.length : Int),0,st,y6,st.text,([] : List T.qc)) >>= fun v8 =>
  some (.inr (st.text,y6,v8))
def q0h : (Int × (Sl T.qa) × Int × Int × (Sl T.Stop) × Int × Int × T.qf × T.Span × T.qa) → Option (((Int) ⊕ (Unit)))
 | (k,t11,t12,t13,t19,t20,t21,s,at_,b2_) =>
  if (decide (t21 < t20)) then
   q9 t19.l t21 >>= fun x3 =>
   if ((x3.n == s.cur) && (!x3.turned)) then
    q0x at_ x3.span >>= fun v7 =>
    if v7 then
     some (.inl t21)
    else
     q0h (k,t11,t12,t13,t19,t20,(IntKind.i64.wrap (t21 + 1)),s,at_,b2_)
   else
    q0h (k,t11,t12,t13,t19,t20,(IntKind.i64.wrap (t21 + 1)),s,at_,b2_)
  else
   some (.inr ())
 partial_fixpoint
def q3c : ((Sl T.qa) × Int × Int × T.qf × T.Span) → Option (((Int × Int) ⊕ (Unit)))
 | (t11,t12,t13,s,at_) =>
  if (decide (t13 < t12)) then
   q9 t11.l t13 >>= fun x3 =>
   q0h (t13,t11,t12,t13,x3.stops,(x3.stops.l.length : Int),0,s,at_,x3) >>= fun v5 =>
   match v5 with
   | .inl y6 =>
    some (.inl (t13,y6))
   | .inr y7 =>
    q3c (t11,t12,(IntKind.i64.wrap (t13 + 1)),s,at_)
  else
   some (.inr ())
 partial_fixpoint
def kg (s : T.qf) (at_ : T.Span) : Option ((Int × Int)) :=
 q3c (s.insts,(s.insts.l.length : Int),0,s,at_) >>= fun v2 =>
 match v2 with
 | .inl y3 =>
  some (y3.1,y3.2)
 | .inr y4 =>
  some ((-1),(-1))
def q2o : ((Sl T.qb) × Int × Int × T.qf) → Option (((Bool) ⊕ (Unit)))
 | (t9,t10,t11,s) =>
  if (decide (t11 < t10)) then
   q9 t9.l t11 >>= fun x3 =>
   kg s x3.span >>= fun v5 =>
   if (decide (v5.2 < 0)) then
    some (.inl false)
   else
    q2o (t9,t10,(IntKind.i64.wrap (t11 + 1)),s)
  else
   some (.inr ())
 partial_fixpoint
def q4l (s : T.qf) (es : (Sl T.qb)) : Option ((Bool)) :=
 q2o (es,(es.l.length : Int),0,s) >>= fun v2 =>
 match v2 with
 | .inl y3 =>
  some y3
 | .inr y4 =>
  some true
def qcf (es : (Sl T.qb)) (w : Bytes) (w2 : (Sl T.Sel)) (r1_ : (List T.qc)) : Option ((Unit)) :=
 if (decide ((r1_.length : Int) > 0)) then
  q9 r1_ (IntKind.i64.wrap ((r1_.length : Int) - 1)) >>= fun x3 =>
  q4l x3.session es >>= fun v5 =>
  if (!v5) then
   none
  else
   some ()
 else
  some ()
def qdi (es : (Sl T.qb)) (b : Bytes) (b_2 : (Sl T.Sel)) (r_ : (List T.qc)) : Option ((Unit)) :=
 qcf es b b_2 r_ >>= fun v2 =>
 some ()
def q9b (s : (Sl T.qb)) : Option ((((Sl T.qb)) ⊕ ((List T.qb)))) :=
 if s.nil then
  some (.inl (⟨true,([] : List T.qb)⟩ : Sl T.qb))
 else
  if qj (s.l.length) 32 = true then
   some (.inr s.l)
  else none
def q5m (a : T.qb) (b : T.qb) : Option ((Int)) :=
 cmp_Compare_int a.span.frm b.span.frm >>= fun v2 =>
 cmp_Compare_int a.span.to b.span.to >>= fun v4 =>
 q1g [v2,v4] >>= fun v6 =>
 some v6
def qcn (data : (Sl T.qb)) (a : Int) (b : Int) (i : Int) (j : Int) : Option ((Unit)) :=
 if (decide (j > a)) then
  q9 data.l j >>= fun x3 =>
  q9 data.l (IntKind.i64.wrap (j - 1)) >>= fun x5 =>
  q5m x3 x5 >>= fun v7 =>
  if (decide (v7 < 0)) then
   none
  else
   some ()
 else
  some ()
def q6o : ((Sl T.qb) × Int × Int × Int) → Option ((Unit))
 | (data,a,b,i) =>
  if (decide (i < b)) then
   qcn data a b i i >>= fun v3 =>
   q6o (data,a,b,(IntKind.i64.wrap (i + 1)))
  else
   some ()
 partial_fixpoint
def q9e (data : (Sl T.qb)) (a : Int) (b : Int) : Option ((Unit)) :=
 q6o (data,a,b,(IntKind.i64.wrap (a + 1))) >>= fun v2 =>
 some ()
def q8h : ((Sl T.qb) × Int × Int × Int × Int) → Option ((Int))
 | (data,n,blockSize,a,b) =>
  if (decide (b ≤ n)) then
   q9e data a b >>= fun v3 =>
   q8h (data,n,blockSize,b,(IntKind.i64.wrap (b + blockSize)))
  else
   some a
 partial_fixpoint
def qbh (data : (Sl T.qb)) (n : Int) (blockSize : Int) (a : Int) (b : Int) : Option ((Unit)) :=
 if (decide (b ≤ n)) then
  none
 else
  some ()
def q7k : ((Sl T.qb) × Int × Int) → Option ((Unit))
 | (data,n,blockSize) =>
  if (decide (blockSize < n)) then
   qbh data n blockSize 0 (IntKind.i64.wrap (2 * blockSize)) >>= fun v3 =>
   if (decide ((IntKind.i64.wrap (0 + blockSize)) < n)) then
    none
   else
    q7k (data,n,(IntKind.i64.wrap (blockSize * 2)))
  else
   some ()
 partial_fixpoint
def qc7 (data : (Sl T.qb)) (n : Int) : Option ((Unit)) :=
 q8h (data,n,20,0,20) >>= fun v2 =>
 q9e data v2 n >>= fun v4 =>
 q7k (data,n,20) >>= fun v6 =>
 some ()
def qd7 (x : (Sl T.qb)) : Option ((Unit)) :=
 qc7 x (x.l.length : Int) >>= fun v2 =>
 some ()
def q2r : (Int × Int × Int × Int × (List T.qb)) → Option (((List T.qb)))
 | (a,b,i,j,data) =>
  if (decide (j > a)) then
   q9 data j >>= fun x3 =>
   q9 data (IntKind.i64.wrap (j - 1)) >>= fun x5 =>
   q5m x3 x5 >>= fun v7 =>
   if (decide (v7 < 0)) then
    q9 (data.set j.toNat x5) (IntKind.i64.wrap (j - 1)) >>= fun x10 =>
    q2r (a,b,i,(IntKind.i64.wrap (j - 1)),((data.set j.toNat x5).set ((IntKind.i64.wrap (j - (1 : Int))).toNat) x3))
   else
    some data
  else
   some data
 partial_fixpoint
def q3g : (Int × Int × Int × (List T.qb)) → Option (((List T.qb)))
 | (a,b,i,data) =>
  if (decide (i < b)) then
   q2r (a,b,i,i,data) >>= fun v3 =>
   q3g (a,b,(IntKind.i64.wrap (i + 1)),v3)
  else
   some data
 partial_fixpoint
def q7l (a : Int) (b : Int) (r_ : (List T.qb)) : Option (((List T.qb))) :=
 q3g (a,b,(IntKind.i64.wrap (a + 1)),r_) >>= fun v2 =>
 some v2
def q6b : (Int × Int × Int × Int × (List T.qb)) → Option ((Int × (List T.qb)))
 | (n,blockSize,a,b,data) =>
  if (decide (b ≤ n)) then
   q7l a b data >>= fun v3 =>
   q6b (n,blockSize,b,(IntKind.i64.wrap (b + blockSize)),v3)
  else
   some (a,data)
 partial_fixpoint
def qd3 (n : Int) (blockSize : Int) (a : Int) (b : Int) (data : (List T.qb)) : Option ((Unit)) :=
 if (decide (b ≤ n)) then
  none
 else
  some ()
def q4i : (Int × Int × (List T.qb)) → Option ((Unit))
 | (n,blockSize,data) =>
  if (decide (blockSize < n)) then
   qd3 n blockSize 0 (IntKind.i64.wrap (2 * blockSize)) data >>= fun v3 =>
   if (decide ((IntKind.i64.wrap (0 + blockSize)) < n)) then
    none
   else
    q4i (n,(IntKind.i64.wrap (blockSize * 2)),data)
  else
   some ()
 partial_fixpoint
def q9w (n : Int) (r_ : (List T.qb)) : Option (((List T.qb))) :=
 q6b (n,20,0,20,r_) >>= fun v2 =>
 q7l v2.1 n v2.2 >>= fun v4 =>
 q4i (n,20,v4) >>= fun v6 =>
 some v4
def q7x (r_ : (List T.qb)) : Option (((List T.qb))) :=
 q9w (r_.length : Int) r_ >>= fun v2 =>
 some v2
def q29 (es : (Sl T.qb)) : Option ((((Sl T.qb)) ⊕ ((List T.qb)))) :=
 q9b es >>= fun v2 =>
 match v2 with
 | .inl y3 =>
  qd7 y3 >>= fun v5 =>
  some (.inl y3)
 | .inr y6 =>
  q7x y6 >>= fun v8 =>
  some (.inr v8)
def qb2 (s : (Sl T.qb)) (i : Int) (j : Int) : Option ((Unit)) :=
 if (decide (i < j)) then
  q9 s.l j >>= fun x3 =>
  q9 s.l i >>= fun x5 =>
  none
 else
  some ()
def q5d (s : (Sl T.qb)) : Option ((Unit)) :=
 qb2 s 0 (IntKind.i64.wrap ((s.l.length : Int) - 1)) >>= fun v2 =>
 some ()
def q9g (x : Int) (y : Int) : Option ((Int × Int)) :=
 some ((IntKind.u64.wrap ((IntKind.u64.wrap ((IntKind.u64.wrap ((x.fdiv (2 ^ (min ((32 : Int)).toNat IntKind.u64.bits))) * (y.fdiv (2 ^ (min ((32 : Int)).toNat IntKind.u64.bits))))) + ((IntKind.u64.wrap ((IntKind.u64.wrap ((x.fdiv (2 ^ (min ((32 : Int)).toNat IntKind.u64.bits))) * (IntKind.u64.wrap (BitVec.ofInt IntKind.u64.bits y &&& BitVec.ofInt IntKind.u64.bits (4294967295 : Int)).toNat))) + ((IntKind.u64.wrap ((IntKind.u64.wrap (BitVec.ofInt IntKind.u64.bits x &&& BitVec.ofInt IntKind.u64.bits (4294967295 : Int)).toNat) * (IntKind.u64.wrap (BitVec.ofInt IntKind.u64.bits y &&& BitVec.ofInt IntKind.u64.bits (4294967295 : Int)).toNat))).fdiv (2 ^ (min ((32 : Int)).toNat IntKind.u64.bits))))).fdiv (2 ^ (min ((32 : Int)).toNat IntKind.u64.bits))))) + ((IntKind.u64.wrap ((IntKind.u64.wrap (BitVec.ofInt IntKind.u64.bits (IntKind.u64.wrap ((IntKind.u64.wrap ((x.fdiv (2 ^ (min ((32 : Int)).toNat IntKind.u64.bits))) * (IntKind.u64.wrap (BitVec.ofInt IntKind.u64.bits y &&& BitVec.ofInt IntKind.u64.bits (4294967295 : Int)).toNat))) + ((IntKind.u64.wrap ((IntKind.u64.wrap (BitVec.ofInt IntKind.u64.bits x &&& BitVec.ofInt IntKind.u64.bits (4294967295 : Int)).toNat) * (IntKind.u64.wrap (BitVec.ofInt IntKind.u64.bits y &&& BitVec.ofInt IntKind.u64.bits (4294967295 : Int)).toNat))).fdiv (2 ^ (min ((32 : Int)).toNat IntKind.u64.bits))))) &&& BitVec.ofInt IntKind.u64.bits (4294967295 : Int)).toNat) + (IntKind.u64.wrap ((IntKind.u64.wrap (BitVec.ofInt IntKind.u64.bits x &&& BitVec.ofInt IntKind.u64.bits (4294967295 : Int)).toNat) * (y.fdiv (2 ^ (min ((32 : Int)).toNat IntKind.u64.bits))))))).fdiv (2 ^ (min ((32 : Int)).toNat IntKind.u64.bits))))),(IntKind.u64.wrap (x * y)))
def q93 (x : Int) (y : Int) : Option ((Int × Int)) :=
 q9g x y >>= fun v2 =>
 some (v2.1,v2.2)
def qav (n : Int) (newslice : (List (Int × Int))) : Option ((Unit)) :=
 if (decide (n < (newslice.length : Int))) then
  none
 else
  some ()
def q6q (x : (Sl (Int × Int))) (count : Int) : Option (((List (Int × Int)))) :=
 if (decide (count < (0 : Int))) then
  none
 else
  q93 (IntKind.u64.wrap (x.l.length : Int)) (IntKind.u64.wrap count) >>= fun v3 =>
  if ((decide (v3.1 > (0 : Int))) || (decide (v3.2 > (9223372036854775807 : Int)))) then
   none
  else
   if 0 ≤ (IntKind.i64.wrap v3.2) then
    if qj (IntKind.i64.wrap v3.2).toNat 16 = true then
     qav ((x.l.take (List.replicate (IntKind.i64.wrap v3.2).toNat ((0 : Int),(0 : Int))).length).length : Int) (x.l.take (List.replicate (IntKind.i64.wrap v3.2).toNat ((0 : Int),(0 : Int))).length ++ (List.replicate (IntKind.i64.wrap v3.2).toNat ((0 : Int),(0 : Int))).drop (x.l.take (List.replicate (IntKind.i64.wrap v3.2).toNat ((0 : Int),(0 : Int))).length).length) >>= fun v9 =>
     some (x.l.take (List.replicate (IntKind.i64.wrap v3.2).toNat ((0 : Int),(0 : Int))).length ++ (List.replicate (IntKind.i64.wrap v3.2).toNat ((0 : Int),(0 : Int))).drop (x.l.take (List.replicate (IntKind.i64.wrap v3.2).toNat ((0 : Int),(0 : Int))).length).length)
    else none
   else none
def q3s : (Int × Bool × Int × Bytes × (Sl T.Sel) × (List T.qc) × T.qb × (List (Int × Int)) × T.Span) → Option (((List (Int × Int)) × T.Span))
 | (depth,typed,k,w,w2,r1_,e,owners,at_) =>
  if (decide (k ≥ 0)) then
   q9 r1_ k >>= fun x3 =>
   kg x3.session at_ >>= fun v5 =>
   if (decide (v5.2 ≥ 0)) then
    q9 owners k >>= fun x8 =>
    q9 x3.session.insts.l v5.1 >>= fun x10 =>
    q3s (depth,typed,(IntKind.i64.wrap (k - 1)),w,w2,r1_,e,(owners.set k.toNat v5),x10.span)
   else
    q3s (depth,typed,(IntKind.i64.wrap (k - 1)),w,w2,r1_,e,owners,at_)
  else
   some (owners,at_)
 partial_fixpoint
def q8l (inst : Int) (stop : Int) (deep : Bool) (t19 : (Sl T.qa)) (t20 : Int) (t21 : Int) (s : T.qf) (b1_ : T.qb) (t10 : Int) (t102 : Int) (t103 : Bytes) (t104 : Int) (t105 : Int) (r_ : Int) (r_2 : Int) (r_3 : Bytes) (r_4 : Int) (r_5 : Int) (b4_ : T.qa) (r5_ : (List Int)) : Option ((Unit)) :=
 if (decide (t21 < t20)) then
  q9 t19.l t21 >>= fun x3 =>
  if 0 ≤ (IntKind.i64.wrap ((x3.stops.l.length : Int) + 1)) then
   if qj (IntKind.i64.wrap ((x3.stops.l.length : Int) + (1 : Int))).toNat 8 = true then
    if qj 2 24 = true then
     none
    else none
   else none
  else none
 else
  some ()
def q81 (inst : Int) (stop : Int) (deep : Bool) (t19 : (Sl T.qa)) (t20 : Int) (t21 : Int) (s : T.qf) (b1_ : T.qb) (t10 : Int) (t102 : Int) (t103 : Bytes) (t104 : Int) (t105 : Int) (r_ : Int) (r_2 : Int) (r_3 : Bytes) (r_4 : Int) (r_5 : Int) : Option (((T.qa × (List Int)) ⊕ (Unit))) :=
 if (decide (t21 < t20)) then
  q9 t19.l t21 >>= fun x3 =>
  if 0 ≤ (IntKind.i64.wrap ((x3.stops.l.length : Int) + (1 : Int))) then
   if qj (IntKind.i64.wrap ((x3.stops.l.length : Int) + (1 : Int))).toNat 8 = true then
    if qj 1 24 = true then
     q8l inst stop deep t19 t20 (IntKind.i64.wrap (t21 + (1 : Int))) s b1_ t10 t102 t103 t104 t105 r_ r_2 r_3 r_4 r_5 x3 (List.replicate (IntKind.i64.wrap ((x3.stops.l.length : Int) + (1 : Int))).toNat (0 : Int)) >>= fun v8 =>
     some (.inl (x3,(List.replicate (IntKind.i64.wrap ((x3.stops.l.length : Int) + (1 : Int))).toNat (0 : Int))))
    else none
   else none
  else none
 else
  some (.inr ())
def q0d (i : T.qa) (k : Int) : Option ((Int)) :=
 q9 i.stops.l k >>= fun x2 =>
 if ((decide (x2.up ≥ 0)) && (decide (x2.up < k))) then
  some x2.up
 else
  some (-1)
def q0o : (Int × Bool × Int × Int × Int × Bytes × Int × Int × (List Int) × T.qa) → Option (((List Int)))
 | (stop,deep,k,r_,r_2,r_3,r_4,r_5,does,i) =>
  if (decide (k ≥ 0)) then
   q9 does (IntKind.i64.wrap (k + 1)) >>= fun x3 =>
   q0d i k >>= fun v5 =>
   q0o (stop,deep,v5,r_,r_2,r_3,r_4,r_5,(does.set ((IntKind.i64.wrap (k + (1 : Int))).toNat) 1),i)
  else
   some does
 partial_fixpoint
def q9o (x : T.Span) (b : Int) (b_2 : Int) (b_3 : Bytes) (b_4 : Int) (b_5 : Int) (r_ : (List Int)) : Option ((Bool)) :=
 if ((decide (x.frm < b)) && (decide (x.to > b_2))) then
  some true
 else
 if (decide (b < b_2)) then
  q0x (T.Span.mk b b_2) x >>= fun v8 =>
  some v8
 else
  some false
def w9 : (Bool × Int × Int × Int × Bytes × Int × Int × (List Int) × T.qa × (List Bool)) → Option ((Int × (List Int) × (List Bool)))
 | (deep,k,r_,r_2,r_3,r_4,r_5,does,i,inside) =>
  if (deep && (decide (k < (i.stops.l.length : Int)))) then
   q0d i k >>= fun v4 =>
   if (decide (v4 ≥ 0)) then
    q9 inside v4 >>= fun x7 =>
    q9 inside k >>= fun x9 =>
    q9 (inside.set k.toNat x7) k >>= fun x11 =>
    if x11 then
     q9 does (IntKind.i64.wrap (v4 + 1)) >>= fun x14 =>
     if (x14 == 1) then
      q9 i.stops.l k >>= fun x17 =>
      q9o x17.span r_ r_2 r_3 r_4 r_5 does >>= fun v19 =>
      if v19 then
       q9 does (IntKind.i64.wrap (k + 1)) >>= fun x22 =>
       w9 (deep,(IntKind.i64.wrap (k + 1)),r_,r_2,r_3,r_4,(IntKind.i64.wrap (k + 1)),(does.set ((IntKind.i64.wrap (k + (1 : Int))).toNat) 1),i,(inside.set k.toNat x7))
      else
       w9 (deep,(IntKind.i64.wrap (k + 1)),r_,r_2,r_3,r_4,r_5,does,i,(inside.set k.toNat x7))
     else
      w9 (deep,(IntKind.i64.wrap (k + 1)),r_,r_2,r_3,r_4,r_5,does,i,(inside.set k.toNat x7))
    else
     w9 (deep,(IntKind.i64.wrap (k + 1)),r_,r_2,r_3,r_4,r_5,does,i,(inside.set k.toNat x7))
   else
    q9 inside k >>= fun x24 =>
    q9 (inside.set k.toNat false) k >>= fun x26 =>
    if x26 then
     q9 does (IntKind.i64.wrap (v4 + 1)) >>= fun x29 =>
     if (x29 == 1) then
      q9 i.stops.l k >>= fun x32 =>
      q9o x32.span r_ r_2 r_3 r_4 r_5 does >>= fun v34 =>
      if v34 then
       q9 does (IntKind.i64.wrap (k + 1)) >>= fun x37 =>
       w9 (deep,(IntKind.i64.wrap (k + 1)),r_,r_2,r_3,r_4,(IntKind.i64.wrap (k + 1)),(does.set ((IntKind.i64.wrap (k + (1 : Int))).toNat) 1),i,(inside.set k.toNat false))
      else
       w9 (deep,(IntKind.i64.wrap (k + 1)),r_,r_2,r_3,r_4,r_5,does,i,(inside.set k.toNat false))
     else
      w9 (deep,(IntKind.i64.wrap (k + 1)),r_,r_2,r_3,r_4,r_5,does,i,(inside.set k.toNat false))
    else
     w9 (deep,(IntKind.i64.wrap (k + 1)),r_,r_2,r_3,r_4,r_5,does,i,(inside.set k.toNat false))
  else
   some (r_5,does,inside)
 partial_fixpoint
def q3r (i : T.qa) (stop : Int) (deep : Bool) (b : Int) (b_2 : Int) (b_3 : Bytes) (b_4 : Int) (b_5 : Int) (r_ : (List Int)) : Option ((Int × (List Int))) :=
 if (b_4 == (0 : Int)) then
  q9 r_ (0 : Int) >>= fun x3 =>
  q0o (stop,deep,stop,b,b_2,b_3,b_4,b_5,(r_.set ((0 : Int).toNat) (1 : Int)),i) >>= fun v5 =>
  if 0 ≤ (i.stops.l.length : Int) then
   if qj (i.stops.l.length : Int).toNat 1 = true then
    q9 (List.replicate (i.stops.l.length : Int).toNat false) stop >>= fun x9 =>
    w9 (deep,(IntKind.i64.wrap (stop + (1 : Int))),b,b_2,b_3,b_4,(IntKind.i64.wrap (stop + (1 : Int))),v5,i,((List.replicate (i.stops.l.length : Int).toNat false).set stop.toNat true)) >>= fun v11 =>
    some (v11.1,v11.2.1)
   else none
  else none
 else
  none
def q21 (x : T.Span) (around : Int) (inst : Int) (place : Int) (b : Int) (b_2 : Int) (b_3 : Bytes) (b_4 : Int) (b_5 : Int) (r_ : (List Int)) : Option ((Int)) :=
 if (around != 1) then
  some around
 else
 if ((decide (x.frm < b_2)) && (decide (x.to > b))) then
  some 2
 else
 if ((decide (x.to < b)) || ((x.to == b) && ((decide (x.frm < x.to)) || ((decide (b_4 < 0)) || ((decide (inst < b_4)) || ((inst == b_4) && (decide (place < b_5)))))))) then
  some 3
 else
  some 4
def yc : (Int × (Sl T.Stop) × Int × Int × Int × Int × Bytes × Int × Int × (List Int) × T.qa) → Option (((List Int)))
 | (inst,t28,t29,t30,r_,r_2,r_3,r_4,r_5,does,i) =>
  if (decide (t30 < t29)) then
   q9 t28.l t30 >>= fun x3 =>
   q9 does (IntKind.i64.wrap (t30 + 1)) >>= fun x5 =>
   if (x5 != 1) then
    q0d i t30 >>= fun v8 =>
    q9 does (IntKind.i64.wrap (v8 + 1)) >>= fun x10 =>
    q21 x3.span x10 inst (IntKind.i64.wrap (t30 + 1)) r_ r_2 r_3 r_4 r_5 does >>= fun v12 =>
    yc (inst,t28,t29,(IntKind.i64.wrap (t30 + 1)),r_,r_2,r_3,r_4,r_5,(does.set ((IntKind.i64.wrap (t30 + (1 : Int))).toNat) v12),i)
   else
    yc (inst,t28,t29,(IntKind.i64.wrap (t30 + 1)),r_,r_2,r_3,r_4,r_5,does,i)
  else
   some does
 partial_fixpoint
def q3h (i : T.qa) (inst : Int) (b : Int) (b_2 : Int) (b_3 : Bytes) (b_4 : Int) (b_5 : Int) (r_ : (List Int)) : Option (((List Int))) :=
 if (inst == 0) then
  q9 r_ 0 >>= fun x3 =>
  if (x3 != 1) then
   q21 i.span 1 inst 0 b b_2 b_3 b_4 b_5 r_ >>= fun v6 =>
   yc (inst,i.stops,(i.stops.l.length : Int),0,b,b_2,b_3,b_4,b_5,(r_.set ((0 : Int).toNat) v6),i) >>= fun v8 =>
   some v8
  else
   yc (inst,i.stops,(i.stops.l.length : Int),0,b,b_2,b_3,b_4,b_5,r_,i) >>= fun v10 =>
   some v10
 else
  none
def nk : ((Sl T.qa) × Int × Int × T.qf × T.qb × Int × Int × Bytes × Int × Int × Int × Int × Bytes × Int × Int × T.qa × (List Int)) → Option (((List Int)))
 | (t71,t72,t73,b0_,b1_,t10,t102,t103,t104,t105,r_,r_2,r_3,r_4,r_5,b4_,r5_) =>
  if (decide (t73 < t72)) then
   q9 t71.l t73 >>= fun x3 =>
   q3h x3 t73 r_ r_2 r_3 r_4 r_5 r5_ >>= fun v5 =>
   nk (t71,t72,(IntKind.i64.wrap (t73 + 1)),b0_,b1_,t10,t102,t103,t104,t105,r_,r_2,r_3,r_4,r_5,b4_,v5)
  else
   some r5_
 partial_fixpoint
def q9s (x : T.Span) (around : Int) (inst : Int) (place : Int) (b : T.z8) : Option ((Int)) :=
 if (around != 1) then
  some around
 else
 if ((decide (x.frm < b.e.span.to)) && (decide (x.to > b.e.span.frm))) then
  some 2
 else
 if ((decide (x.to < b.e.span.frm)) || ((x.to == b.e.span.frm) && ((decide (x.frm < x.to)) || ((decide (b.inst < 0)) || ((decide (inst < b.inst)) || ((inst == b.inst) && (decide (place < b.place)))))))) then
  some 3
 else
  some 4
def q71 : (Int × (Sl Int) × (Sl T.Stop) × Int × Int × T.z8 × T.qa) → Option ((Unit))
 | (inst,does,t28,t29,t30,r_,i) =>
  if (decide (t30 < t29)) then
   q9 t28.l t30 >>= fun x3 =>
   q9 does.l (IntKind.i64.wrap (t30 + 1)) >>= fun x5 =>
   if (x5 != 1) then
    q0d i t30 >>= fun v8 =>
    q9 does.l (IntKind.i64.wrap (v8 + 1)) >>= fun x10 =>
    q9s x3.span x10 inst (IntKind.i64.wrap (t30 + 1)) r_ >>= fun v12 =>
    none
   else
    q71 (inst,does,t28,t29,(IntKind.i64.wrap (t30 + 1)),r_,i)
  else
   some ()
 partial_fixpoint
def qar (i : T.qa) (inst : Int) (b : T.z8) : Option ((Unit)) :=
 q9 b.does.l inst >>= fun x2 =>
 q9 x2.l 0 >>= fun x4 =>
 if (x4 != 1) then
  q9s i.span 1 inst 0 b >>= fun v7 =>
  none
 else
  q71 (inst,x2,i.stops,(i.stops.l.length : Int),0,b,i) >>= fun v9 =>
  some ()
def q8j : ((Sl T.qa) × Int × Int × T.qf × T.qb × Int × Int × Bytes × Int × Int × T.z8) → Option ((Unit))
 | (t71,t72,t73,b0_,b1_,t10,t102,t103,t104,t105,r_) =>
  if (decide (t73 < t72)) then
   q9 t71.l t73 >>= fun x3 =>
   qar x3 t73 r_ >>= fun v5 =>
   q8j (t71,t72,(IntKind.i64.wrap (t73 + 1)),b0_,b1_,t10,t102,t103,t104,t105,r_)
  else
   some ()
 partial_fixpoint
def qaq (t71 : (Sl T.qa)) (t72 : Int) (t73 : Int) (b0_ : T.qf) (b1_ : T.qb) (t10 : Int) (t102 : Int) (t103 : Bytes) (t104 : Int) (t105 : Int) (r_ : Int) (r_2 : Int) (r_3 : Bytes) (r_4 : Int) (r_5 : Int) : Option (((T.z8) ⊕ (Unit))) :=
 if (decide (t73 < t72)) then
  q9 t71.l t73 >>= fun x3 =>
  qar x3 t73 (T.z8.mk (T.qb.mk (T.Span.mk r_ r_2) r_3) (⟨true,([] : List (Sl Int))⟩ : (Sl (Sl Int))) r_4 r_5) >>= fun v5 =>
  q8j (t71,t72,(IntKind.i64.wrap (t73 + 1)),b0_,b1_,t10,t102,t103,t104,t105,(T.z8.mk (T.qb.mk (T.Span.mk r_ r_2) r_3) (⟨true,([] : List (Sl Int))⟩ : (Sl (Sl Int))) r_4 r_5)) >>= fun v7 =>
  some (.inl (T.z8.mk (T.qb.mk (T.Span.mk r_ r_2) r_3) (⟨true,([] : List (Sl Int))⟩ : (Sl (Sl Int))) r_4 r_5))
 else
  some (.inr ())
def q46 (s : T.qf) (inst : Int) (stop : Int) (e : T.qb) (deep : Bool) : Option (((Int × Int × Bytes × Int × Int × (List Int)) ⊕ (T.z8))) :=
 q81 inst stop deep s.insts (s.insts.l.length : Int) 0 s e 0 0 ([] : Bytes) 0 0 e.span.frm e.span.to e.text (-1) 0 >>= fun v2 =>
 match v2 with
 | .inl y3 =>
  if ((decide (inst ≥ 0)) && ((decide (inst < (s.insts.l.length : Int))) && (decide (stop ≥ 0)))) then
   q9 s.insts.l inst >>= fun x8 =>
   if (decide (stop < (x8.stops.l.length : Int))) then
    q3r x8 stop deep e.span.frm e.span.to e.text inst 0 y3.2 >>= fun v11 =>
    nk (s.insts,(s.insts.l.length : Int),0,s,e,0,0,([] : Bytes),0,0,e.span.frm,e.span.to,e.text,inst,v11.1,y3.1,v11.2) >>= fun v13 =>
    some (.inl (e.span.frm,e.span.to,e.text,inst,v11.1,v13))
   else
    nk (s.insts,(s.insts.l.length : Int),0,s,e,0,0,([] : Bytes),0,0,e.span.frm,e.span.to,e.text,(-1),0,y3.1,y3.2) >>= fun v15 =>
    some (.inl (e.span.frm,e.span.to,e.text,(-1),0,v15))
  else
   nk (s.insts,(s.insts.l.length : Int),0,s,e,0,0,([] : Bytes),0,0,e.span.frm,e.span.to,e.text,(-1),0,y3.1,y3.2) >>= fun v21 =>
   some (.inl (e.span.frm,e.span.to,e.text,(-1),0,v21))
 | .inr y22 =>
  if ((decide (inst ≥ 0)) && ((decide (inst < (s.insts.l.length : Int))) && (decide (stop ≥ 0)))) then
   q9 s.insts.l inst >>= fun x27 =>
   if (decide (stop < (x27.stops.l.length : Int))) then
    none
   else
    qaq s.insts (s.insts.l.length : Int) 0 s e 0 0 ([] : Bytes) 0 0 e.span.frm e.span.to e.text (-1) 0 >>= fun v30 =>
    match v30 with
    | .inl y31 =>
     some (.inr y31)
    | .inr y32 =>
     some (.inr (T.z8.mk e (⟨true,([] : List (Sl Int))⟩ : (Sl (Sl Int))) (-1) 0))
  else
   qaq s.insts (s.insts.l.length : Int) 0 s e 0 0 ([] : Bytes) 0 0 e.span.frm e.span.to e.text (-1) 0 >>= fun v42 =>
   match v42 with
   | .inl y43 =>
    some (.inr y43)
   | .inr y44 =>
    some (.inr (T.z8.mk e (⟨true,([] : List (Sl Int))⟩ : (Sl (Sl Int))) (-1) 0))
def q28 : (Int × Bool × (Sl T.qb) × Int × Int) → Option ((Int))
 | (at_,right,t14,t15,t16) =>
  if (decide (t16 < t15)) then
   q9 t14.l t16 >>= fun x3 =>
   if (decide (at_ < x3.span.frm)) then
    q28 (at_,right,t14,t15,(IntKind.i64.wrap (t16 + 1)))
   else
   if (decide (at_ > x3.span.to)) then
    kv x3.span >>= fun v7 =>
    q28 ((IntKind.i64.wrap (at_ + (IntKind.i64.wrap ((x3.text.length : Int) - v7)))),right,t14,t15,(IntKind.i64.wrap (t16 + 1)))
   else
   if right then
    q28 ((IntKind.i64.wrap (x3.span.frm + (x3.text.length : Int))),right,t14,t15,(IntKind.i64.wrap (t16 + 1)))
   else
    q28 (x3.span.frm,right,t14,t15,(IntKind.i64.wrap (t16 + 1)))
  else
   some at_
 partial_fixpoint
def q6k : (Int × Int × (List T.qb)) → Option (((List T.qb)))
 | (i,j,s) =>
  if (decide (i < j)) then
   q9 s j >>= fun x3 =>
   q9 s i >>= fun x5 =>
   q9 (s.set i.toNat x3) j >>= fun x7 =>
   q6k ((IntKind.i64.wrap (i + 1)),(IntKind.i64.wrap (j - 1)),((s.set i.toNat x3).set j.toNat x5))
  else
   some s
 partial_fixpoint
def q1l (r_ : (List T.qb)) : Option (((List T.qb))) :=
 q6k (0,(IntKind.i64.wrap ((r_.length : Int) - 1)),r_) >>= fun v2 =>
 some v2
def uo : (Int × Bool × Int × Int × (List T.qb)) → Option ((Int))
 | (at_,right,t15,t16,t14) =>
  if (decide (t16 < t15)) then
   q9 t14 t16 >>= fun x3 =>
   if (decide (at_ < x3.span.frm)) then
    uo (at_,right,t15,(IntKind.i64.wrap (t16 + 1)),t14)
   else
   if (decide (at_ > x3.span.to)) then
    kv x3.span >>= fun v7 =>
    uo ((IntKind.i64.wrap (at_ + (IntKind.i64.wrap ((x3.text.length : Int) - v7)))),right,t15,(IntKind.i64.wrap (t16 + 1)),t14)
   else
   if right then
    uo ((IntKind.i64.wrap (x3.span.frm + (x3.text.length : Int))),right,t15,(IntKind.i64.wrap (t16 + 1)),t14)
   else
    uo (x3.span.frm,right,t15,(IntKind.i64.wrap (t16 + 1)),t14)
  else
   some at_
 partial_fixpoint
def q00 (at_ : Int) (right : Bool) (r_ : (List T.qb)) : Option ((Int)) :=
 q29 (⟨false,r_⟩ : Sl T.qb) >>= fun v2 =>
 match v2 with
 | .inl y3 =>
  q5d y3 >>= fun v5 =>
  q28 (at_,right,y3,(y3.l.length : Int),0) >>= fun v7 =>
  some v7
 | .inr y8 =>
  q1l y8 >>= fun v10 =>
  uo (at_,right,(v10.length : Int),0,v10) >>= fun v12 =>
  some v12
def uw (x : T.Span) (does : Int) (b : Int) (b_2 : Int) (b_3 : Bytes) (b_4 : Int) (b_5 : Int) (r_ : (List Int)) : Option ((T.Span)) :=
 if (does == 1) then
  kv (T.Span.mk b b_2) >>= fun v3 =>
  some (T.Span.mk x.frm (IntKind.i64.wrap ((IntKind.i64.wrap (x.to + (b_3.length : Int))) - v3)))
 else
  q00 x.frm (does == 4) [(T.qb.mk (T.Span.mk b b_2) b_3)] >>= fun v5 =>
  q00 x.to (does == 4) [(T.qb.mk (T.Span.mk b b_2) b_3)] >>= fun v7 =>
  some (T.Span.mk v5 v7)
def jo : ((Sl T.qd) × Bool × (Sl T.Stop) × Int × Int × Int × Int × Bytes × Int × Int × (List Int) × T.qa × T.qa × Int × Int × (List Int) × (List T.qd) × (List T.Stop)) → Option (((List Int) × (List T.qd) × (List T.Stop)))
 | (marks,typed,t32,t33,t34,r_,r_2,r_3,r_4,r_5,does,i,t10,out,out2,places,kept,r8_) =>
  if (decide (t34 < t33)) then
   q9 t32.l t34 >>= fun x3 =>
   q9 does (IntKind.i64.wrap (t34 + 1)) >>= fun x5 =>
   if (x5 == 2) then
    jo (marks,typed,t32,t33,(IntKind.i64.wrap (t34 + 1)),r_,r_2,r_3,r_4,r_5,does,i,t10,out,out2,places,kept,r8_)
   else
    q9 places t34 >>= fun x8 =>
    q0d i t34 >>= fun v10 =>
    if (decide (v10 ≥ 0)) then
     q9 (places.set t34.toNat (r8_.length : Int)) v10 >>= fun x13 =>
     uw x3.span x5 r_ r_2 r_3 r_4 r_5 does >>= fun v15 =>
     q9 marks.l t34 >>= fun x17 =>
     if x17.held then
      if qj (r8_.length + 1) 200 = true then
       if qj (kept.length + 1) 16 = true then
        jo (marks,typed,t32,t33,(IntKind.i64.wrap (t34 + 1)),r_,r_2,r_3,r_4,r_5,does,i,t10,out,out2,(places.set t34.toNat (r8_.length : Int)),(kept ++ [(T.qd.mk x17.id true)]),(r8_ ++ [(T.Stop.mk v15 x3.n x13 x3.first x3.turned x3.form x3.opts)]))
       else none
      else none
     else
     if typed then
      if qj (r8_.length + 1) 200 = true then
       if qj (kept.length + 1) 16 = true then
        jo (marks,typed,t32,t33,(IntKind.i64.wrap (t34 + 1)),r_,r_2,r_3,r_4,r_5,does,i,t10,out,out2,(places.set t34.toNat (r8_.length : Int)),(kept ++ [(T.qd.mk x17.id (x5 == 1))]),(r8_ ++ [(T.Stop.mk v15 x3.n x13 x3.first x3.turned x3.form x3.opts)]))
       else none
      else none
     else
      if qj (r8_.length + 1) 200 = true then
       if qj (kept.length + 1) 16 = true then
        jo (marks,typed,t32,t33,(IntKind.i64.wrap (t34 + 1)),r_,r_2,r_3,r_4,r_5,does,i,t10,out,out2,(places.set t34.toNat (r8_.length : Int)),(kept ++ [(T.qd.mk x17.id false)]),(r8_ ++ [(T.Stop.mk v15 x3.n x13 x3.first x3.turned x3.form x3.opts)]))
       else none
      else none
    else
     uw x3.span x5 r_ r_2 r_3 r_4 r_5 does >>= fun v27 =>
     q9 marks.l t34 >>= fun x29 =>
     if x29.held then
      if qj (r8_.length + 1) 200 = true then
       if qj (kept.length + 1) 16 = true then
        jo (marks,typed,t32,t33,(IntKind.i64.wrap (t34 + 1)),r_,r_2,r_3,r_4,r_5,does,i,t10,out,out2,(places.set t34.toNat (r8_.length : Int)),(kept ++ [(T.qd.mk x29.id true)]),(r8_ ++ [(T.Stop.mk v27 x3.n x3.up x3.first x3.turned x3.form x3.opts)]))
       else none
      else none
     else
     if typed then
      if qj (r8_.length + 1) 200 = true then
       if qj (kept.length + 1) 16 = true then
        jo (marks,typed,t32,t33,(IntKind.i64.wrap (t34 + 1)),r_,r_2,r_3,r_4,r_5,does,i,t10,out,out2,(places.set t34.toNat (r8_.length : Int)),(kept ++ [(T.qd.mk x29.id (x5 == 1))]),(r8_ ++ [(T.Stop.mk v27 x3.n x3.up x3.first x3.turned x3.form x3.opts)]))
       else none
      else none
     else
      if qj (r8_.length + 1) 200 = true then
       if qj (kept.length + 1) 16 = true then
        jo (marks,typed,t32,t33,(IntKind.i64.wrap (t34 + 1)),r_,r_2,r_3,r_4,r_5,does,i,t10,out,out2,(places.set t34.toNat (r8_.length : Int)),(kept ++ [(T.qd.mk x29.id false)]),(r8_ ++ [(T.Stop.mk v27 x3.n x3.up x3.first x3.turned x3.form x3.opts)]))
       else none
      else none
  else
   some (places,kept,r8_)
 partial_fixpoint
def q2a (i : T.qa) (marks : (Sl T.qd)) (typed : Bool) (b : Int) (b_2 : Int) (b_3 : Bytes) (b_4 : Int) (b_5 : Int) (r_ : (List Int)) : Option ((T.qa × (Sl T.qd))) :=
 q9 r_ (0 : Int) >>= fun x2 =>
 uw i.span x2 b b_2 b_3 b_4 b_5 r_ >>= fun v4 =>
 if 0 ≤ (i.stops.l.length : Int) then
  if qj (i.stops.l.length : Int).toNat 8 = true then
   jo (marks,typed,i.stops,(i.stops.l.length : Int),(0 : Int),b,b_2,b_3,b_4,b_5,r_,i,(T.qa.mk (T.Span.mk (0 : Int) (0 : Int)) (⟨true,([] : List T.Stop)⟩ : (Sl T.Stop))),v4.frm,v4.to,(List.replicate (i.stops.l.length : Int).toNat (0 : Int)),([] : List T.qd),([] : List T.Stop)) >>= fun v8 =>
   some ((T.qa.mk v4 (⟨v8.2.2.isEmpty,v8.2.2⟩ : (Sl T.Stop))),(⟨v8.2.1.isEmpty,v8.2.1⟩ : Sl T.qd))
  else none
 else none
def q14 : (Bool × (Sl T.qa) × Int × Int × T.qc × T.qb × T.qc × (List Int) × Int × Int × Bytes × Int × Int × Int × (List T.qa) × (List (Sl T.qd))) → Option (((List T.qa) × (List (Sl T.qd))))
 | (typed,t34,t35,t36,s,b1_,t12,r4_,r_,r_2,r_3,r_4,r_5,out,r7_,r8_) =>
  if (decide (t36 < t35)) then
   q9 t34.l t36 >>= fun x3 =>
   if (t36 == 0) then
    q9 r4_ 0 >>= fun x6 =>
    if (x6 != 2) then
     q9 s.marks.l t36 >>= fun x9 =>
     q2a x3 x9 typed r_ r_2 r_3 r_4 r_5 r4_ >>= fun v11 =>
     if qj (r7_.length + 1) 40 = true then
      if qj (r8_.length + 1) 24 = true then
       q14 (typed,t34,t35,(IntKind.i64.wrap (t36 + 1)),s,b1_,t12,r4_,r_,r_2,r_3,r_4,r_5,out,(r7_ ++ [v11.1]),(r8_ ++ [v11.2]))
      else none
     else none
    else
     q14 (typed,t34,t35,(IntKind.i64.wrap (t36 + 1)),s,b1_,t12,r4_,r_,r_2,r_3,r_4,r_5,out,r7_,r8_)
   else
    none
  else
   some (r7_,r8_)
 partial_fixpoint
def q6x (x : T.Span) (does : Int) (b : T.z8) : Option ((T.Span)) :=
 if (does == 1) then
  kv b.e.span >>= fun v3 =>
  some (T.Span.mk x.frm (IntKind.i64.wrap ((IntKind.i64.wrap (x.to + (b.e.text.length : Int))) - v3)))
 else
  q00 x.frm (does == 4) [b.e] >>= fun v5 =>
  q00 x.to (does == 4) [b.e] >>= fun v7 =>
  some (T.Span.mk v5 v7)
def mf : ((Sl Int) × (Sl T.qd) × Bool × (Sl T.Stop) × Int × Int × T.z8 × T.qa × T.qa × Int × Int × (List Int) × (List T.qd) × (List T.Stop)) → Option (((List Int) × (List T.qd) × (List T.Stop)))
 | (does,marks,typed,t32,t33,t34,r_,i,t10,out,out2,places,kept,r6_) =>
  if (decide (t34 < t33)) then
   q9 t32.l t34 >>= fun x3 =>
   q9 does.l (IntKind.i64.wrap (t34 + 1)) >>= fun x5 =>
   if (x5 == 2) then
    mf (does,marks,typed,t32,t33,(IntKind.i64.wrap (t34 + 1)),r_,i,t10,out,out2,places,kept,r6_)
   else
    q9 places t34 >>= fun x8 =>
    q0d i t34 >>= fun v10 =>
    if (decide (v10 ≥ 0)) then
     q9 (places.set t34.toNat (r6_.length : Int)) v10 >>= fun x13 =>
     q6x x3.span x5 r_ >>= fun v15 =>
     q9 marks.l t34 >>= fun x17 =>
     if x17.held then
      if qj (r6_.length + 1) 200 = true then
       if qj (kept.length + 1) 16 = true then
        mf (does,marks,typed,t32,t33,(IntKind.i64.wrap (t34 + 1)),r_,i,t10,out,out2,(places.set t34.toNat (r6_.length : Int)),(kept ++ [(T.qd.mk x17.id true)]),(r6_ ++ [(T.Stop.mk v15 x3.n x13 x3.first x3.turned x3.form x3.opts)]))
       else none
      else none
     else
     if typed then
      if qj (r6_.length + 1) 200 = true then
       if qj (kept.length + 1) 16 = true then
        mf (does,marks,typed,t32,t33,(IntKind.i64.wrap (t34 + 1)),r_,i,t10,out,out2,(places.set t34.toNat (r6_.length : Int)),(kept ++ [(T.qd.mk x17.id (x5 == 1))]),(r6_ ++ [(T.Stop.mk v15 x3.n x13 x3.first x3.turned x3.form x3.opts)]))
       else none
      else none
     else
      if qj (r6_.length + 1) 200 = true then
       if qj (kept.length + 1) 16 = true then
        mf (does,marks,typed,t32,t33,(IntKind.i64.wrap (t34 + 1)),r_,i,t10,out,out2,(places.set t34.toNat (r6_.length : Int)),(kept ++ [(T.qd.mk x17.id false)]),(r6_ ++ [(T.Stop.mk v15 x3.n x13 x3.first x3.turned x3.form x3.opts)]))
       else none
      else none
    else
     q6x x3.span x5 r_ >>= fun v27 =>
     q9 marks.l t34 >>= fun x29 =>
     if x29.held then
      if qj (r6_.length + 1) 200 = true then
       if qj (kept.length + 1) 16 = true then
        mf (does,marks,typed,t32,t33,(IntKind.i64.wrap (t34 + 1)),r_,i,t10,out,out2,(places.set t34.toNat (r6_.length : Int)),(kept ++ [(T.qd.mk x29.id true)]),(r6_ ++ [(T.Stop.mk v27 x3.n x3.up x3.first x3.turned x3.form x3.opts)]))
       else none
      else none
     else
     if typed then
      if qj (r6_.length + 1) 200 = true then
       if qj (kept.length + 1) 16 = true then
        mf (does,marks,typed,t32,t33,(IntKind.i64.wrap (t34 + 1)),r_,i,t10,out,out2,(places.set t34.toNat (r6_.length : Int)),(kept ++ [(T.qd.mk x29.id (x5 == 1))]),(r6_ ++ [(T.Stop.mk v27 x3.n x3.up x3.first x3.turned x3.form x3.opts)]))
       else none
      else none
     else
      if qj (r6_.length + 1) 200 = true then
       if qj (kept.length + 1) 16 = true then
        mf (does,marks,typed,t32,t33,(IntKind.i64.wrap (t34 + 1)),r_,i,t10,out,out2,(places.set t34.toNat (r6_.length : Int)),(kept ++ [(T.qd.mk x29.id false)]),(r6_ ++ [(T.Stop.mk v27 x3.n x3.up x3.first x3.turned x3.form x3.opts)]))
       else none
      else none
  else
   some (places,kept,r6_)
 partial_fixpoint
def qe0 (i : T.qa) (does : (Sl Int)) (marks : (Sl T.qd)) (typed : Bool) (b : T.z8) : Option ((T.qa × (Sl T.qd))) :=
 q9 does.l (0 : Int) >>= fun x2 =>
 q6x i.span x2 b >>= fun v4 =>
 if 0 ≤ (i.stops.l.length : Int) then
  if qj (i.stops.l.length : Int).toNat 8 = true then
   mf (does,marks,typed,i.stops,(i.stops.l.length : Int),(0 : Int),b,i,(T.qa.mk (T.Span.mk (0 : Int) (0 : Int)) (⟨true,([] : List T.Stop)⟩ : (Sl T.Stop))),v4.frm,v4.to,(List.replicate (i.stops.l.length : Int).toNat (0 : Int)),([] : List T.qd),([] : List T.Stop)) >>= fun v8 =>
   some ((T.qa.mk v4 (⟨v8.2.2.isEmpty,v8.2.2⟩ : (Sl T.Stop))),(⟨v8.2.1.isEmpty,v8.2.1⟩ : Sl T.qd))
  else none
 else none
def q4n : (Bool × (Sl T.qa) × Int × Int × T.qc × T.qb × T.qc × T.z8 × Int × (List T.qa) × (List (Sl T.qd))) → Option (((List T.qa) × (List (Sl T.qd))))
 | (typed,t34,t35,t36,s,b1_,t12,r_,out,r5_,r6_) =>
  if (decide (t36 < t35)) then
   q9 t34.l t36 >>= fun x3 =>
   q9 r_.does.l t36 >>= fun x5 =>
   q9 x5.l 0 >>= fun x7 =>
   if (x7 != 2) then
    q9 s.marks.l t36 >>= fun x10 =>
    qe0 x3 x5 x10 typed r_ >>= fun v12 =>
    if qj (r5_.length + 1) 40 = true then
     if qj (r6_.length + 1) 24 = true then
      q4n (typed,t34,t35,(IntKind.i64.wrap (t36 + 1)),s,b1_,t12,r_,out,(r5_ ++ [v12.1]),(r6_ ++ [v12.2]))
     else none
    else none
   else
    q4n (typed,t34,t35,(IntKind.i64.wrap (t36 + 1)),s,b1_,t12,r_,out,r5_,r6_)
  else
   some (r5_,r6_)
 partial_fixpoint
def ni (s : T.qc) (inst : Int) (stop : Int) (e : T.qb) (deep : Bool) (typed : Bool) : Option ((T.qc)) :=
 q46 s.session inst stop e deep >>= fun v2 =>
 match v2 with
 | .inl y3 =>
  q14 (typed,s.session.insts,(s.session.insts.l.length : Int),0,s,e,(T.qc.mk (T.qf.mk 0 (⟨true,([] : List T.qa)⟩ : (Sl T.qa))) (⟨true,([] : List (Sl T.qd))⟩ : (Sl (Sl T.qd)))),y3.2.2.2.2.2,y3.1,y3.2.1,y3.2.2.1,y3.2.2.2.1,y3.2.2.2.2.1,s.session.cur,([] : List T.qa),([] : List (Sl T.qd))) >>= fun v5 =>
  some (T.qc.mk (T.qf.mk s.session.cur (⟨v5.1.isEmpty,v5.1⟩ : (Sl T.qa))) (⟨v5.2.isEmpty,v5.2⟩ : (Sl (Sl T.qd))))
 | .inr y6 =>
  q4n (typed,s.session.insts,(s.session.insts.l.length : Int),0,s,e,(T.qc.mk (T.qf.mk 0 (⟨true,([] : List T.qa)⟩ : (Sl T.qa))) (⟨true,([] : List (Sl T.qd))⟩ : (Sl (Sl T.qd)))),y6,s.session.cur,([] : List T.qa),([] : List (Sl T.qd))) >>= fun v8 =>
  some (T.qc.mk (T.qf.mk s.session.cur (⟨v8.1.isEmpty,v8.1⟩ : (Sl T.qa))) (⟨v8.2.isEmpty,v8.2⟩ : (Sl (Sl T.qd))))
def q02 : (Int × Bool × Int × Int × Bytes × (Sl T.Sel) × (List T.qc) × T.qb × (List (Int × Int)) × T.Span) → Option (((List T.qc)))
 | (depth,typed,t92,t93,w,w2,t91,e,owners,b5_) =>
  if (decide (t93 < t92)) then
   q9 t91 t93 >>= fun x3 =>
   q9 owners t93 >>= fun x5 =>
   if typed then
    ni x3 x5.1 x5.2 e true typed >>= fun v8 =>
    q02 (depth,typed,t92,(IntKind.i64.wrap (t93 + 1)),w,w2,(t91.set t93.toNat v8),e,owners,b5_)
   else
    ni x3 x5.1 x5.2 e (decide (t93 < depth)) typed >>= fun v10 =>
    q02 (depth,typed,t92,(IntKind.i64.wrap (t93 + 1)),w,w2,(t91.set t93.toNat v10),e,owners,b5_)
  else
   some t91
 partial_fixpoint
def q1e : (Int × Bool × (Sl T.qb) × Int × Int) → Option ((Int))
 | (at_,right,t14,t15,t16) =>
  if (decide (t16 < t15)) then
   q9 t14.l t16 >>= fun x3 =>
   if (decide (at_ < x3.span.frm)) then
    q1e (at_,right,t14,t15,(IntKind.i64.wrap (t16 + 1)))
   else
   if (decide (at_ > x3.span.to)) then
    kv x3.span >>= fun v7 =>
    q1e ((IntKind.i64.wrap (at_ + (IntKind.i64.wrap ((x3.text.length : Int) - v7)))),right,t14,t15,(IntKind.i64.wrap (t16 + 1)))
   else
   if right then
    q1e ((IntKind.i64.wrap (x3.span.frm + (x3.text.length : Int))),right,t14,t15,(IntKind.i64.wrap (t16 + 1)))
   else
    q1e (x3.span.frm,right,t14,t15,(IntKind.i64.wrap (t16 + 1)))
  else
   some at_
 partial_fixpoint
def uz : (Int × Bool × Int × Int × (List T.qb)) → Option ((Int))
 | (at_,right,t15,t16,t14) =>
  if (decide (t16 < t15)) then
   q9 t14 t16 >>= fun x3 =>
   if (decide (at_ < x3.span.frm)) then
    uz (at_,right,t15,(IntKind.i64.wrap (t16 + 1)),t14)
   else
   if (decide (at_ > x3.span.to)) then
    kv x3.span >>= fun v7 =>
    uz ((IntKind.i64.wrap (at_ + (IntKind.i64.wrap ((x3.text.length : Int) - v7)))),right,t15,(IntKind.i64.wrap (t16 + 1)),t14)
   else
   if right then
    uz ((IntKind.i64.wrap (x3.span.frm + (x3.text.length : Int))),right,t15,(IntKind.i64.wrap (t16 + 1)),t14)
   else
    uz (x3.span.frm,right,t15,(IntKind.i64.wrap (t16 + 1)),t14)
  else
   some at_
 partial_fixpoint
def q67 (at_ : Int) (right : Bool) (es : (Sl T.qb)) : Option ((Int)) :=
 q29 es >>= fun v2 =>
 match v2 with
 | .inl y3 =>
  q5d y3 >>= fun v5 =>
  q1e (at_,right,y3,(y3.l.length : Int),0) >>= fun v7 =>
  some v7
 | .inr y8 =>
  q1l y8 >>= fun v10 =>
  uz (at_,right,(v10.length : Int),0,v10) >>= fun v12 =>
  some v12
def q4e : ((Sl T.qb) × (Sl T.Sel) × Int × Int × (List T.Sel)) → Option (((List T.Sel)))
 | (es,t8,t9,t10,out) =>
  if (decide (t10 < t9)) then
   q9 t8.l t10 >>= fun x3 =>
   q67 x3.anchor true es >>= fun v5 =>
   q67 x3.head true es >>= fun v7 =>
   if qj (out.length + 1) 16 = true then
    q4e (es,t8,t9,(IntKind.i64.wrap (t10 + 1)),(out ++ [(T.Sel.mk v5 v7)]))
   else none
  else
   some out
 partial_fixpoint
def q5k (l : (Sl T.Sel)) (r_ : (List T.qb)) : Option (((Sl T.Sel))) :=
 q4e ((⟨false,r_⟩ : Sl T.qb),l,(l.l.length : Int),0,([] : List T.Sel)) >>= fun v2 =>
 q25 (⟨v2.isEmpty,v2⟩ : Sl T.Sel) >>= fun v4 =>
 some v4
def q4s : (Int × Bool × Int × Int × Bytes × (Sl T.Sel) × (List T.qc) × T.qb × (List (Int × Int))) → Option (((List T.qc)))
 | (depth,typed,t92,t93,w,w2,t91,e,owners) =>
  if (decide (t93 < t92)) then
   q9 t91 t93 >>= fun x3 =>
   q9 owners t93 >>= fun x5 =>
   if typed then
    ni x3 x5.1 x5.2 e true typed >>= fun v8 =>
    q4s (depth,typed,t92,(IntKind.i64.wrap (t93 + 1)),w,w2,(t91.set t93.toNat v8),e,owners)
   else
    ni x3 x5.1 x5.2 e (decide (t93 < depth)) typed >>= fun v10 =>
    q4s (depth,typed,t92,(IntKind.i64.wrap (t93 + 1)),w,w2,(t91.set t93.toNat v10),e,owners)
  else
   some t91
 partial_fixpoint
def ky (depth : Int) (inst : Int) (stop : Int) (e : T.qb) (typed : Bool) (b : Bytes) (b_2 : (Sl T.Sel)) (r_ : (List T.qc)) : Option ((Bytes × (Sl T.Sel) × (List T.qc))) :=
 q6q (⟨false,[((-1),(-1))]⟩ : Sl (Int × Int)) (r_.length : Int) >>= fun v2 =>
 if (decide (stop ≥ 0)) then
  q9 v2 depth >>= fun x5 =>
  q9 r_ depth >>= fun x7 =>
  q9 x7.session.insts.l inst >>= fun x9 =>
  q3s (depth,typed,(IntKind.i64.wrap (depth - 1)),b,b_2,r_,e,(v2.set depth.toNat (inst,stop)),x9.span) >>= fun v11 =>
  q02 (depth,typed,(r_.length : Int),0,b,b_2,r_,e,v11.1,v11.2) >>= fun v13 =>
  ku b e.span.frm >>= fun r15 =>
  if r15.length + e.text.length ≤ 2 ^ 62 then
   jv b e.span.to >>= fun r18 =>
   if (r15 ++ e.text).length + r18.length ≤ 2 ^ 62 then
    q5k b_2 [e] >>= fun v21 =>
    some (((r15 ++ e.text) ++ r18),v21,v13)
   else none
  else none
 else
  q4s (depth,typed,(r_.length : Int),0,b,b_2,r_,e,v2) >>= fun v23 =>
  ku b e.span.frm >>= fun r25 =>
  if r25.length + e.text.length ≤ 2 ^ 62 then
   jv b e.span.to >>= fun r28 =>
   if (r25 ++ e.text).length + r28.length ≤ 2 ^ 62 then
    q5k b_2 [e] >>= fun v31 =>
    some (((r25 ++ e.text) ++ r28),v31,v23)
   else none
  else none
def q62 : ((Sl T.qb) × Int × Int × Bytes × (Sl T.Sel) × (List T.qc)) → Option ((Bytes × (Sl T.Sel) × (List T.qc)))
 | (t14,t15,t16,w,w2,r1_) =>
  if (decide (t16 < t15)) then
   q9 t14.l t16 >>= fun x3 =>
   if (decide ((IntKind.i64.wrap ((r1_.length : Int) - 1)) ≥ 0)) then
    q9 r1_ (IntKind.i64.wrap ((r1_.length : Int) - 1)) >>= fun x6 =>
    kg x6.session x3.span >>= fun v8 =>
    ky (IntKind.i64.wrap ((r1_.length : Int) - 1)) v8.1 v8.2 x3 true w w2 r1_ >>= fun v10 =>
    q62 (t14,t15,(IntKind.i64.wrap (t16 + 1)),v10.1,v10.2.1,v10.2.2)
   else
    ky (IntKind.i64.wrap ((r1_.length : Int) - 1)) (-1) (-1) x3 true w w2 r1_ >>= fun v12 =>
    q62 (t14,t15,(IntKind.i64.wrap (t16 + 1)),v12.1,v12.2.1,v12.2.2)
  else
   some (w,w2,r1_)
 partial_fixpoint
def q5h : (Int × Int × Bytes × (Sl T.Sel) × (List T.qc) × (List T.qb)) → Option ((Bytes × (Sl T.Sel) × (List T.qc)))
 | (t15,t16,w,w2,r1_,t14) =>
  if (decide (t16 < t15)) then
   q9 t14 t16 >>= fun x3 =>
   if (decide ((IntKind.i64.wrap ((r1_.length : Int) - 1)) ≥ 0)) then
    q9 r1_ (IntKind.i64.wrap ((r1_.length : Int) - 1)) >>= fun x6 =>
    kg x6.session x3.span >>= fun v8 =>
    ky (IntKind.i64.wrap ((r1_.length : Int) - 1)) v8.1 v8.2 x3 true w w2 r1_ >>= fun v10 =>
    q5h (t15,(IntKind.i64.wrap (t16 + 1)),v10.1,v10.2.1,v10.2.2,t14)
   else
    ky (IntKind.i64.wrap ((r1_.length : Int) - 1)) (-1) (-1) x3 true w w2 r1_ >>= fun v12 =>
    q5h (t15,(IntKind.i64.wrap (t16 + 1)),v12.1,v12.2.1,v12.2.2,t14)
  else
   some (w,w2,r1_)
 partial_fixpoint
def qbj (es : (Sl T.qb)) (b : Bytes) (b_2 : (Sl T.Sel)) (r_ : (List T.qc)) : Option ((Bytes × (Sl T.Sel) × (List T.qc))) :=
 q29 es >>= fun v2 =>
 match v2 with
 | .inl y3 =>
  q5d y3 >>= fun v5 =>
  q62 (y3,(y3.l.length : Int),0,b,b_2,r_) >>= fun v7 =>
  some (v7.1,v7.2.1,v7.2.2)
 | .inr y8 =>
  q1l y8 >>= fun v10 =>
  q5h ((v10.length : Int),0,b,b_2,r_,v10) >>= fun v12 =>
  some (v12.1,v12.2.1,v12.2.2)
def q1w : ((Sl T.Stop) × Int × Int × T.qa × ze) → Option ((ze))
 | (t12,t13,t14,i,left) =>
  if (decide (t14 < t13)) then
   q9 t12.l t14 >>= fun x3 =>
   q1w (t12,t13,(IntKind.i64.wrap (t14 + 1)),i,(vw left x3.n (IntKind.i64.wrap ((xy left x3.n) + 1))))
  else
   some left
 partial_fixpoint
def qaf (m : ze) : Option ((Unit)) :=
 some ()
def q26 : (Int × (Sl T.Stop) × Int × Int × ze × T.qa × ze × T.Stop) → Option ((ze))
 | (u,t12,t13,t14,left,i,out,s) =>
  if (decide (u ≥ 0)) then
   q9 i.stops.l u >>= fun x3 =>
   if (x3.n != s.n) then
    q2f i u >>= fun v6 =>
    q26 (v6,t12,t13,t14,left,i,(vw out x3.n (IntKind.i64.wrap ((xy out x3.n) + 1))),s)
   else
    q2f i u >>= fun v8 =>
    q26 (v8,t12,t13,t14,left,i,out,s)
  else
   some out
 partial_fixpoint
def q0y : ((Sl T.Stop) × Int × Int × ze × T.qa × ze) → Option ((ze))
 | (t12,t13,t14,left,i,out) =>
  if (decide (t14 < t13)) then
   q9 t12.l t14 >>= fun x3 =>
   if ((xy left x3.n) == 0) then
    q0y (t12,t13,(IntKind.i64.wrap (t14 + 1)),left,i,out)
   else
    q2f i t14 >>= fun v6 =>
    q26 (v6,t12,t13,t14,left,i,out,x3) >>= fun v8 =>
    q0y (t12,t13,(IntKind.i64.wrap (t14 + 1)),left,i,v8)
  else
   some out
 partial_fixpoint
def q74 (i : T.qa) (m : ze) : Option ((ze)) :=
 q0y (i.stops,(i.stops.l.length : Int),0,m,i,(⟨[],0⟩ : ze)) >>= fun v2 =>
 some v2
def qap (n : Int) (m : ze) : Option ((Bool)) :=
 some ((xy m n) == 0)
def q5q : ((Sl Int) × Int × Int × ze) → Option (((Int) ⊕ (Unit)))
 | (s,t7,t8,m1) =>
  if (decide (t8 < t7)) then
   q9 s.l t8 >>= fun x3 =>
   qap x3 m1 >>= fun v5 =>
   if v5 then
    some (.inl t8)
   else
    q5q (s,t7,(IntKind.i64.wrap (t8 + 1)),m1)
  else
   some (.inr ())
 partial_fixpoint
def q7a (s : (Sl Int)) (m : ze) : Option ((Int)) :=
 q5q (s,(s.l.length : Int),0,m) >>= fun v2 =>
 match v2 with
 | .inl y3 =>
  some y3
 | .inr y4 =>
  some (-1)
def q3i : (T.qa × ze × (List Int)) → Option ((ze × (List Int)))
 | (i,left,out) =>
  if (decide ((left.es.length : Int) > 0)) then
   qaf left >>= fun v3 =>
   q7t left >>= fun v5 =>
   q74 i left >>= fun v7 =>
   q7a (⟨v5.isEmpty,v5⟩ : Sl Int) v7 >>= fun v9 =>
   q9 v5 (if v9 > 0 then v9 else 0) >>= fun x11 =>
   if qj (out.length + 1) 8 = true then
    q3i (i,(q4y left x11),(out ++ [x11]))
   else none
  else
   some (left,out)
 partial_fixpoint
def q7v (i : T.qa) : Option (((Sl Int))) :=
 q1w (i.stops,(i.stops.l.length : Int),0,i,(⟨[],0⟩ : ze)) >>= fun v2 =>
 q3i (i,v2,([] : List Int)) >>= fun v4 =>
 some (⟨v4.2.isEmpty,v4.2⟩ : Sl Int)
def q0l : (Int × Int × Int × (Sl T.qd) × (Sl T.qd) × Int × Int × Bytes × (Sl T.Sel) × (List T.qc) × T.qa × (List Bool)) → Option (((List Bool)))
 | (d,i,n,marks,t47,t48,t49,w,w2,r1_,in_,held) =>
  if (decide (t49 < t48)) then
   q9 t47.l t49 >>= fun x3 =>
   q9 held t49 >>= fun x5 =>
   q0l (d,i,n,marks,t47,t48,(IntKind.i64.wrap (t49 + 1)),w,w2,r1_,in_,(held.set t49.toNat x3.held))
  else
   some held
 partial_fixpoint
def jy : (Int × (Sl Bool) × Int × Int × Int × Int × T.qa) → Option ((Int × Int × Int))
 | (n,held,of,first,any_,k,i) =>
  if (decide (k ≥ 0)) then
   q9 i.stops.l k >>= fun x3 =>
   if ((x3.n != n) || x3.turned) then
    jy (n,held,of,first,any_,(IntKind.i64.wrap (k - 1)),i)
   else
   if x3.first then
    if (decide (k < (held.l.length : Int))) then
     q9 held.l k >>= fun x9 =>
     if x9 then
      jy (n,held,k,k,k,(IntKind.i64.wrap (k - 1)),i)
     else
      jy (n,held,of,k,k,(IntKind.i64.wrap (k - 1)),i)
    else
     jy (n,held,of,k,k,(IntKind.i64.wrap (k - 1)),i)
   else
   if (decide (k < (held.l.length : Int))) then
    q9 held.l k >>= fun x13 =>
    if x13 then
     jy (n,held,k,first,k,(IntKind.i64.wrap (k - 1)),i)
    else
     jy (n,held,of,first,k,(IntKind.i64.wrap (k - 1)),i)
   else
    jy (n,held,of,first,k,(IntKind.i64.wrap (k - 1)),i)
  else
   some (of,first,any_)
 partial_fixpoint
def q86 (i : T.qa) (n : Int) (held : (Sl Bool)) : Option ((Int)) :=
 jy (n,held,(-1),(-1),(-1),(IntKind.i64.wrap ((i.stops.l.length : Int) - 1)),i) >>= fun v2 =>
 if (decide (v2.1 ≥ 0)) then
  some v2.1
 else
 if (decide (v2.2.1 ≥ 0)) then
  some v2.2.1
 else
  some v2.2.2
def jd : (Int × Int × Int × Bytes × Int × Int × Bytes × (Sl T.Sel) × (List T.qc) × T.qa) → Option (((Int × Bytes × (Sl T.Sel) × (List T.qc)) ⊕ (Bytes × (Sl T.Sel) × (List T.qc))))
 | (d,i,n,text,id,k,w,w2,r1_,b2_) =>
  q9 r1_ d >>= fun x2 =>
  q9 x2.session.insts.l i >>= fun x4 =>
  if (decide (k < (x4.stops.l.length : Int))) then
   q9 x4.stops.l k >>= fun x7 =>
   if (x7.n != n) then
    jd (d,i,n,text,id,(IntKind.i64.wrap (k + 1)),w,w2,r1_,b2_)
   else
    q9 x2.marks.l i >>= fun x10 =>
    q9 x10.l k >>= fun x12 =>
    if (x12.id == id) then
     jd (d,i,n,text,id,(IntKind.i64.wrap (k + 1)),w,w2,r1_,b2_)
    else
    if x7.turned then
     none
    else
     zy w x7.span.frm x7.span.to >>= fun r16 =>
     if (text == r16) then
      jd (d,i,n,text,id,(IntKind.i64.wrap (k + 1)),w,w2,r1_,b2_)
     else
      kv x7.span >>= fun v19 =>
      if (decide ((IntKind.i64.wrap ((text.length : Int) - v19)) > (IntKind.i64.wrap (65536 - (w.length : Int))))) then
       some (.inl (4,w,w2,r1_))
      else
       ky d i k (T.qb.mk x7.span text) false w w2 r1_ >>= fun v22 =>
       jd (d,i,n,text,id,(IntKind.i64.wrap (k + 1)),v22.1,v22.2.1,v22.2.2,b2_)
  else
   some (.inr (w,w2,r1_))
 partial_fixpoint
def q2g (d : Int) (i : Int) (n : Int) (b : Bytes) (b_2 : (Sl T.Sel)) (r_ : (List T.qc)) : Option ((Int × Bytes × (Sl T.Sel) × (List T.qc))) :=
 q9 r_ d >>= fun x2 =>
 q9 x2.session.insts.l i >>= fun x4 =>
 q9 x2.marks.l i >>= fun x6 =>
 if 0 ≤ (x6.l.length : Int) then
  if qj (x6.l.length : Int).toNat 1 = true then
   q0l (d,i,n,x6,x6,(x6.l.length : Int),(0 : Int),b,b_2,r_,x4,(List.replicate (x6.l.length : Int).toNat false)) >>= fun v10 =>
   q86 x4 n (⟨false,v10⟩ : Sl Bool) >>= fun v12 =>
   if (decide (v12 < (0 : Int))) then
    some ((0 : Int),b,b_2,r_)
   else
    q9 x4.stops.l v12 >>= fun x15 =>
    zy b x15.span.frm x15.span.to >>= fun r17 =>
    q9 x6.l v12 >>= fun x19 =>
    jd (d,i,n,r17,x19.id,(0 : Int),b,b_2,r_,x4) >>= fun v21 =>
    match v21 with
    | .inl y22 =>
     some (y22.1,y22.2.1,y22.2.2.1,y22.2.2.2)
    | .inr y23 =>
     some ((0 : Int),y23.1,y23.2.1,y23.2.2)
  else none
 else none
def q4d : (Int × Int × (Sl Int) × Int × Int × Bytes × (Sl T.Sel) × (List T.qc)) → Option (((Int × Bytes × (Sl T.Sel) × (List T.qc)) ⊕ (Bytes × (Sl T.Sel) × (List T.qc))))
 | (d,i,t44,t45,t46,w,w2,r1_) =>
  if (decide (t46 < t45)) then
   q9 t44.l t46 >>= fun x3 =>
   q2g d i x3 w w2 r1_ >>= fun v5 =>
   if (v5.1 != 0) then
    some (.inl (v5.1,v5.2.1,v5.2.2.1,v5.2.2.2))
   else
    q4d (d,i,t44,t45,(IntKind.i64.wrap (t46 + 1)),v5.2.1,v5.2.2.1,v5.2.2.2)
  else
   some (.inr (w,w2,r1_))
 partial_fixpoint
def q31 : (Int × Int × Bytes × (Sl T.Sel) × (List T.qc)) → Option (((Int × Bytes × (Sl T.Sel) × (List T.qc)) ⊕ (Bytes × (Sl T.Sel) × (List T.qc))))
 | (d,i,w,w2,r1_) =>
  q9 r1_ d >>= fun x2 =>
  if (decide (i < (x2.session.insts.l.length : Int))) then
   q9 x2.session.insts.l i >>= fun x5 =>
   q7v x5 >>= fun v7 =>
   q4d (d,i,v7,(v7.l.length : Int),0,w,w2,r1_) >>= fun v9 =>
   match v9 with
   | .inl y10 =>
    some (.inl (y10.1,y10.2.1,y10.2.2.1,y10.2.2.2))
   | .inr y11 =>
    q31 (d,(IntKind.i64.wrap (i + 1)),y11.1,y11.2.1,y11.2.2)
  else
   some (.inr (w,w2,r1_))
 partial_fixpoint
def q3x : (Int × Bytes × (Sl T.Sel) × (List T.qc)) → Option (((Int × Bytes × (Sl T.Sel) × (List T.qc)) ⊕ (Bytes × (Sl T.Sel) × (List T.qc))))
 | (d,w,w2,r1_) =>
  if (decide (d ≥ 0)) then
   q31 (d,0,w,w2,r1_) >>= fun v3 =>
   match v3 with
   | .inl y4 =>
    some (.inl (y4.1,y4.2.1,y4.2.2.1,y4.2.2.2))
   | .inr y5 =>
    q3x ((IntKind.i64.wrap (d - 1)),y5.1,y5.2.1,y5.2.2)
  else
   some (.inr (w,w2,r1_))
 partial_fixpoint
def q68 (b : Bytes) (b_2 : (Sl T.Sel)) (r_ : (List T.qc)) : Option ((Int × Bytes × (Sl T.Sel) × (List T.qc))) :=
 q3x ((IntKind.i64.wrap ((r_.length : Int) - 1)),b,b_2,r_) >>= fun v2 =>
 match v2 with
 | .inl y3 =>
  some (y3.1,y3.2.1,y3.2.2.1,y3.2.2.2)
 | .inr y4 =>
  some (0,y4.1,y4.2.1,y4.2.2)
def q0k : ((Sl T.Span) × Int × Int × Int × (Sl T.qa) × Int × Int × Bytes × (Sl T.Sel) × (List T.qc) × Int × (List T.qa) × (List (Sl T.qd))) → Option (((List T.qa) × (List (Sl T.qd))))
 | (around,k,t11,t12,t34,t35,t36,w,w2,r1_,s,r3_,r4_) =>
  if (decide (t36 < t35)) then
   q9 t34.l t36 >>= fun x3 =>
   if (k == 0) then
    if qj (r3_.length + 1) 40 = true then
     q9 r1_ k >>= fun x7 =>
     q9 x7.marks.l t36 >>= fun x9 =>
     if qj (r4_.length + 1) 24 = true then
      q0k (around,k,t11,t12,t34,t35,(IntKind.i64.wrap (t36 + 1)),w,w2,r1_,s,(r3_ ++ [x3]),(r4_ ++ [x9]))
     else none
    else none
   else
    q96 x3.span around >>= fun v12 =>
    if v12 then
     if qj (r3_.length + 1) 40 = true then
      q9 r1_ k >>= fun x16 =>
      q9 x16.marks.l t36 >>= fun x18 =>
      if qj (r4_.length + 1) 24 = true then
       q0k (around,k,t11,t12,t34,t35,(IntKind.i64.wrap (t36 + 1)),w,w2,r1_,s,(r3_ ++ [x3]),(r4_ ++ [x18]))
      else none
     else none
    else
     q0k (around,k,t11,t12,t34,t35,(IntKind.i64.wrap (t36 + 1)),w,w2,r1_,s,r3_,r4_)
  else
   some (r3_,r4_)
 partial_fixpoint
def q3l : ((Sl T.Span) × Int × Int × Bytes × (Sl T.Sel) × (List T.qc)) → Option (((List T.qc)))
 | (around,t11,t12,w,w2,r1_) =>
  if (decide (t12 < t11)) then
   q9 r1_ t12 >>= fun x3 =>
   q0k (around,t12,t11,t12,x3.session.insts,(x3.session.insts.l.length : Int),0,w,w2,r1_,x3.session.cur,([] : List T.qa),([] : List (Sl T.qd))) >>= fun v5 =>
   q6f x3.session.cur (⟨v5.1.isEmpty,v5.1⟩ : Sl T.qa) >>= fun v7 =>
   if ((v7.l.length : Int) == 0) then
    none
   else
    q3l (v7,t11,(IntKind.i64.wrap (t12 + 1)),w,w2,(r1_.set t12.toNat (T.qc.mk (T.qf.mk x3.session.cur (⟨v5.1.isEmpty,v5.1⟩ : (Sl T.qa))) (⟨v5.2.isEmpty,v5.2⟩ : (Sl (Sl T.qd))))))
  else
   some r1_
 partial_fixpoint
def q4u (b : Bytes) (b_2 : (Sl T.Sel)) (r_ : (List T.qc)) : Option (((List T.qc))) :=
 q3l ((⟨true,([] : List T.Span)⟩ : Sl T.Span),(r_.length : Int),0,b,b_2,r_) >>= fun v2 =>
 some v2
def q44 : (Int × Int × Bytes × (Sl T.Sel) × (List T.qc) × T.State × (List T.qf)) → Option (((List T.qf)))
 | (t10,t11,w,w2,t9,t2,all_) =>
  if (decide (t11 < t10)) then
   q9 t9 t11 >>= fun x3 =>
   if qj (all_.length + 1) 32 = true then
    q44 (t10,(IntKind.i64.wrap (t11 + 1)),w,w2,t9,t2,(all_ ++ [x3.session]))
   else none
  else
   some all_
 partial_fixpoint
def q3e : (Int × Int × (List T.qf) × Bytes × (Sl T.Sel) × T.State × (List T.qf)) → Option (((List T.qf)))
 | (t8,t9,t7,st,st2,t2,all_) =>
  if (decide (t9 < t8)) then
   q9 t7 t9 >>= fun x3 =>
   q55 x3 >>= fun v5 =>
   if qj (all_.length + 1) 32 = true then
    q3e (t8,(IntKind.i64.wrap (t9 + 1)),t7,st,st2,t2,(all_ ++ [v5]))
   else none
  else
   some all_
 partial_fixpoint
def q95 (st : Bytes) (st2 : (Sl T.Sel)) (r_ : (List T.qf)) : Option ((T.State)) :=
 q3e ((r_.length : Int),0,r_,st,st2,(T.State.mk ([] : Bytes) (⟨true,([] : List T.Sel)⟩ : (Sl T.Sel)) (⟨true,([] : List T.qf)⟩ : (Sl T.qf))),([] : List T.qf)) >>= fun v2 =>
 q0m st2 >>= fun v4 =>
 match v4 with
 | .inl y5 =>
  some (T.State.mk st y5 (⟨v2.isEmpty,v2⟩ : (Sl T.qf)))
 | .inr y6 =>
  some (T.State.mk st (⟨false,y6⟩ : (Sl T.Sel)) (⟨v2.isEmpty,v2⟩ : (Sl T.qf)))
def q4v (b : Bytes) (b_2 : (Sl T.Sel)) (r_ : (List T.qc)) : Option ((T.State)) :=
 q44 ((r_.length : Int),0,b,b_2,r_,(T.State.mk ([] : Bytes) (⟨true,([] : List T.Sel)⟩ : (Sl T.Sel)) (⟨true,([] : List T.qf)⟩ : (Sl T.qf))),([] : List T.qf)) >>= fun v2 =>
 q95 b b_2 v2 >>= fun v4 =>
 some v4
def q9l (es : (Sl T.qb)) (w : Bytes) (r1_ : (List T.Sel)) (r2_ : (List T.qc)) : Option ((Unit)) :=
 if (decide ((r2_.length : Int) > 0)) then
  q9 r2_ (IntKind.i64.wrap ((r2_.length : Int) - 1)) >>= fun x3 =>
  q4l x3.session es >>= fun v5 =>
  if (!v5) then
   none
  else
   some ()
 else
  some ()
def q7c (es : (Sl T.qb)) (b : Bytes) (r_ : (List T.Sel)) (r_2 : (List T.qc)) : Option ((Unit)) :=
 q9l es b r_ r_2 >>= fun v2 =>
 some ()
def q63 : ((Sl T.qb) × Int × Int × Bytes × (Sl T.Sel) × (List T.qc)) → Option ((Bytes × (Sl T.Sel) × (List T.qc)))
 | (t14,t15,t16,w,w2,r2_) =>
  if (decide (t16 < t15)) then
   q9 t14.l t16 >>= fun x3 =>
   if (decide ((IntKind.i64.wrap ((r2_.length : Int) - 1)) ≥ 0)) then
    q9 r2_ (IntKind.i64.wrap ((r2_.length : Int) - 1)) >>= fun x6 =>
    kg x6.session x3.span >>= fun v8 =>
    ky (IntKind.i64.wrap ((r2_.length : Int) - 1)) v8.1 v8.2 x3 true w w2 r2_ >>= fun v10 =>
    q63 (t14,t15,(IntKind.i64.wrap (t16 + 1)),v10.1,v10.2.1,v10.2.2)
   else
    ky (IntKind.i64.wrap ((r2_.length : Int) - 1)) (-1) (-1) x3 true w w2 r2_ >>= fun v12 =>
    q63 (t14,t15,(IntKind.i64.wrap (t16 + 1)),v12.1,v12.2.1,v12.2.2)
  else
   some (w,w2,r2_)
 partial_fixpoint
def q1s : (Int × Int × Bytes × (Sl T.Sel) × (List T.qc) × (List T.qb)) → Option ((Bytes × (Sl T.Sel) × (List T.qc)))
 | (t15,t16,w,w2,r2_,t14) =>
  if (decide (t16 < t15)) then
   q9 t14 t16 >>= fun x3 =>
   if (decide ((IntKind.i64.wrap ((r2_.length : Int) - 1)) ≥ 0)) then
    q9 r2_ (IntKind.i64.wrap ((r2_.length : Int) - 1)) >>= fun x6 =>
    kg x6.session x3.span >>= fun v8 =>
    ky (IntKind.i64.wrap ((r2_.length : Int) - 1)) v8.1 v8.2 x3 true w w2 r2_ >>= fun v10 =>
    q1s (t15,(IntKind.i64.wrap (t16 + 1)),v10.1,v10.2.1,v10.2.2,t14)
   else
    ky (IntKind.i64.wrap ((r2_.length : Int) - 1)) (-1) (-1) x3 true w w2 r2_ >>= fun v12 =>
    q1s (t15,(IntKind.i64.wrap (t16 + 1)),v12.1,v12.2.1,v12.2.2,t14)
  else
   some (w,w2,r2_)
 partial_fixpoint
def q6v (es : (Sl T.qb)) (b : Bytes) (r_ : (List T.Sel)) (r_2 : (List T.qc)) : Option ((Bytes × (Sl T.Sel) × (List T.qc))) :=
 q29 es >>= fun v2 =>
 match v2 with
 | .inl y3 =>
  q5d y3 >>= fun v5 =>
  q63 (y3,(y3.l.length : Int),0,b,(⟨false,r_⟩ : Sl T.Sel),r_2) >>= fun v7 =>
  some (v7.1,v7.2.1,v7.2.2)
 | .inr y8 =>
  q1l y8 >>= fun v10 =>
  q1s ((v10.length : Int),0,b,(⟨false,r_⟩ : Sl T.Sel),r_2,v10) >>= fun v12 =>
  some (v12.1,v12.2.1,v12.2.2)
def q1x (st : T.State) (es : (Sl T.qb)) : Option ((T.State × Int)) :=
 q8s st >>= fun v2 =>
 if (!v2) then
  some ((T.State.mk ([] : Bytes) (⟨true,([] : List T.Sel)⟩ : (Sl T.Sel)) (⟨true,([] : List T.qf)⟩ : (Sl T.qf))),2)
 else
  q7r (st.text.length : Int) es >>= fun v5 =>
  if (v5 != 0) then
   some ((T.State.mk ([] : Bytes) (⟨true,([] : List T.Sel)⟩ : (Sl T.Sel)) (⟨true,([] : List T.qf)⟩ : (Sl T.qf))),v5)
  else
   q80 st >>= fun v8 =>
   match v8 with
   | .inl y9 =>
    qdi es y9.1 y9.2.1 y9.2.2 >>= fun v11 =>
    qbj es y9.1 y9.2.1 y9.2.2 >>= fun v13 =>
    q68 v13.1 v13.2.1 v13.2.2 >>= fun v15 =>
    if (v15.1 != 0) then
     some ((T.State.mk ([] : Bytes) (⟨true,([] : List T.Sel)⟩ : (Sl T.Sel)) (⟨true,([] : List T.qf)⟩ : (Sl T.qf))),v15.1)
    else
     q4u v15.2.1 v15.2.2.1 v15.2.2.2 >>= fun v18 =>
     q4v v15.2.1 v15.2.2.1 v18 >>= fun v20 =>
     some (v20,0)
   | .inr y21 =>
    q7c es y21.1 y21.2.1 y21.2.2 >>= fun v23 =>
    q6v es y21.1 y21.2.1 y21.2.2 >>= fun v25 =>
    q68 v25.1 v25.2.1 v25.2.2 >>= fun v27 =>
    if (v27.1 != 0) then
     some ((T.State.mk ([] : Bytes) (⟨true,([] : List T.Sel)⟩ : (Sl T.Sel)) (⟨true,([] : List T.qf)⟩ : (Sl T.qf))),v27.1)
    else
     q4u v27.2.1 v27.2.2.1 v27.2.2.2 >>= fun v30 =>
     q4v v27.2.1 v27.2.2.1 v30 >>= fun v32 =>
     some (v32,0)
def q5s (st : T.State) : Option ((T.qf)) :=
 if ((st.sessions.l.length : Int) != 1) then
  some (T.qf.mk 0 (⟨true,([] : List T.qa)⟩ : (Sl T.qa)))
 else
  q9 st.sessions.l 0 >>= fun x3 =>
  some x3
def q5l : (Int × T.Rx × T.Rx) → Option (((Bool) ⊕ (Unit)))
 | (i,a,b) =>
  if (decide (i < (a.rows.l.length : Int))) then
   q9 a.rows.l i >>= fun x3 =>
   q9 b.rows.l i >>= fun x5 =>
   if (!(x3.frm == x5.frm && (x3.to == x5.to))) then
    some (.inl false)
   else
    q5l ((IntKind.i64.wrap (i + 1)),a,b)
  else
   some (.inr ())
 partial_fixpoint
mutual
def q45 : (T.Rx × T.Rx) → Option ((Bool))
 | (a,b) =>
  if ((a.kind != b.kind) || ((!(a.char == b.char)) || ((!(a.not == b.not)) || ((a.min != b.min) || ((a.max != b.max) || ((!(a.lazy == b.lazy)) || (((a.rows.l.length : Int) != (b.rows.l.length : Int)) || ((a.kids.l.length : Int) != (b.kids.l.length : Int))))))))) then
   some false
  else
   q5l (0,a,b) >>= fun v10 =>
   match v10 with
   | .inl y11 =>
    some y11
   | .inr y12 =>
    q65 (0,a,b) >>= fun v14 =>
    match v14 with
    | .inl y15 =>
     some y15
    | .inr y16 =>
     some true
 partial_fixpoint
def q65 : (Int × T.Rx × T.Rx) → Option (((Bool) ⊕ (Unit)))
 | (i,a,b) =>
  if (decide (i < (a.kids.l.length : Int))) then
   q9 a.kids.l i >>= fun x3 =>
   q9 b.kids.l i >>= fun x5 =>
   q45 (x3,x5) >>= fun v7 =>
   if (!v7) then
    some (.inl false)
   else
    q65 ((IntKind.i64.wrap (i + 1)),a,b)
  else
   some (.inr ())
 partial_fixpoint
end
def q6h : (Int × T.Form × T.Form) → Option (((Bool) ⊕ (Unit)))
 | (i,a,b) =>
  if (decide (i < (a.fmts.l.length : Int))) then
   q9 a.fmts.l i >>= fun x3 =>
   q9 b.fmts.l i >>= fun x5 =>
   if (!(x3.kind == x5.kind && (x3.n == x5.n && (x3.cas == x5.cas && (x3.thn == x5.thn && (x3.els == x5.els)))))) then
    some (.inl false)
   else
    q6h ((IntKind.i64.wrap (i + 1)),a,b)
  else
   some (.inr ())
 partial_fixpoint
def q97 (a : T.Form) (b : T.Form) : Option ((Bool)) :=
 q45 (a.rx,b.rx) >>= fun v2 =>
 if ((!v2) || ((!(a.fold == b.fold)) || ((!(a.all == b.all)) || ((a.fmts.l.length : Int) != (b.fmts.l.length : Int))))) then
  some false
 else
  q6h (0,a,b) >>= fun v8 =>
  match v8 with
  | .inl y9 =>
   some y9
  | .inr y10 =>
   some true
def q50 : ((Sl Bytes) × (Sl Bytes) × Int) → Option (((Bool) ⊕ (Unit)))
 | (a,b,i) =>
  if (decide (i < (a.l.length : Int))) then
   q9 a.l i >>= fun x3 =>
   q9 b.l i >>= fun x5 =>
   if (!(x3 == x5)) then
    some (.inl false)
   else
    q50 (a,b,(IntKind.i64.wrap (i + 1)))
  else
   some (.inr ())
 partial_fixpoint
def qa6 (a : (Sl Bytes)) (b : (Sl Bytes)) : Option ((Bool)) :=
 if ((a.l.length : Int) != (b.l.length : Int)) then
  some false
 else
  q50 (a,b,0) >>= fun v3 =>
  match v3 with
  | .inl y4 =>
   some y4
  | .inr y5 =>
   some true
def q7y (a : T.Stop) (b : T.Stop) : Option ((Bool)) :=
 if ((a.span.frm == b.span.frm && (a.span.to == b.span.to)) && ((a.n == b.n) && ((a.up == b.up) && ((a.first == b.first) && (a.turned == b.turned))))) then
  q97 a.form b.form >>= fun v7 =>
  if v7 then
   qa6 a.opts b.opts >>= fun v10 =>
   some v10
  else
   some false
 else
  some false
def q2b : (Int × T.qa × T.qa) → Option (((Bool) ⊕ (Unit)))
 | (i,a,b) =>
  if (decide (i < (a.stops.l.length : Int))) then
   q9 a.stops.l i >>= fun x3 =>
   q9 b.stops.l i >>= fun x5 =>
   q7y x3 x5 >>= fun v7 =>
   if (!v7) then
    some (.inl false)
   else
    q2b ((IntKind.i64.wrap (i + 1)),a,b)
  else
   some (.inr ())
 partial_fixpoint
def q76 (a : T.qa) (b : T.qa) : Option ((Bool)) :=
 if ((!(a.span.frm == b.span.frm && (a.span.to == b.span.to))) || ((a.stops.l.length : Int) != (b.stops.l.length : Int))) then
  some false
 else
  q2b (0,a,b) >>= fun v4 =>
  match v4 with
  | .inl y5 =>
   some y5
  | .inr y6 =>
   some true
def q3q : (Int × T.qf × T.qf) → Option (((Bool) ⊕ (Unit)))
 | (i,a,b) =>
  if (decide (i < (a.insts.l.length : Int))) then
   q9 a.insts.l i >>= fun x3 =>
   q9 b.insts.l i >>= fun x5 =>
   q76 x3 x5 >>= fun v7 =>
   if (!v7) then
    some (.inl false)
   else
    q3q ((IntKind.i64.wrap (i + 1)),a,b)
  else
   some (.inr ())
 partial_fixpoint
def q4p (a : T.qf) (b : T.qf) : Option ((Bool)) :=
 if ((a.cur != b.cur) || ((a.insts.l.length : Int) != (b.insts.l.length : Int))) then
  some false
 else
  q3q (0,a,b) >>= fun v4 =>
  match v4 with
  | .inl y5 =>
   some y5
  | .inr y6 =>
   some true
def q9t (s : Bytes) (t : Bytes) (frm : Int) (many : Int) (text : Bytes) (second : Bool) : Option ((Bool)) :=
 if ((decide ((s.length : Int) > 30)) || ((decide ((t.length : Int) > 30)) || ((decide ((text.length : Int) > 30)) || ((t.length : Int) == 0)))) then
  aw5 >>= fun v3 =>
  some v3
 else
  q6d frm (IntKind.i64.wrap ((s.length : Int) + 1)) >>= fun v14 =>
  q6d many (IntKind.i64.wrap ((IntKind.i64.wrap ((s.length : Int) - v14)) + 1)) >>= fun v16 =>
  ku s v14 >>= fun r18 =>
  if r18.length + text.length ≤ 2 ^ 62 then
   jv s (IntKind.i64.wrap (v14 + v16)) >>= fun r21 =>
   if (r18 ++ text).length + r21.length ≤ 2 ^ 62 then
    if second then
     q2n s t >>= fun v25 =>
     q1x v25 (⟨false,[(T.qb.mk (T.Span.mk (IntKind.i64.wrap ((IntKind.i64.wrap ((s.length : Int) + (t.length : Int))) + v14)) (IntKind.i64.wrap ((IntKind.i64.wrap ((s.length : Int) + (t.length : Int))) + (IntKind.i64.wrap (v14 + v16))))) text)]⟩ : Sl T.qb) >>= fun v27 =>
     if (v27.2 == 0) then
      if ((r18 ++ text) ++ r21).length + t.length ≤ 2 ^ 62 then
       if (((r18 ++ text) ++ r21) ++ t).length + ((r18 ++ text) ++ r21).length ≤ 2 ^ 62 then
        if (v27.1.text == ((((r18 ++ text) ++ r21) ++ t) ++ ((r18 ++ text) ++ r21))) then
         q5s v27.1 >>= fun v33 =>
         q2n ((r18 ++ text) ++ r21) t >>= fun v35 =>
         q9 v35.sessions.l 0 >>= fun x37 =>
         q4p v33 x37 >>= fun v39 =>
         if v39 then
          aw5 >>= fun v42 =>
          some v42
         else
          some false
        else
         some false
       else none
      else none
     else
      some false
    else
     q2n s t >>= fun v44 =>
     q1x v44 (⟨false,[(T.qb.mk (T.Span.mk (IntKind.i64.wrap (0 + v14)) (IntKind.i64.wrap (0 + (IntKind.i64.wrap (v14 + v16))))) text)]⟩ : Sl T.qb) >>= fun v46 =>
     if (v46.2 == 0) then
      if ((r18 ++ text) ++ r21).length + t.length ≤ 2 ^ 62 then
       if (((r18 ++ text) ++ r21) ++ t).length + ((r18 ++ text) ++ r21).length ≤ 2 ^ 62 then
        if (v46.1.text == ((((r18 ++ text) ++ r21) ++ t) ++ ((r18 ++ text) ++ r21))) then
         q5s v46.1 >>= fun v52 =>
         q2n ((r18 ++ text) ++ r21) t >>= fun v54 =>
         q9 v54.sessions.l 0 >>= fun x56 =>
         q4p v52 x56 >>= fun v58 =>
         if v58 then
          aw5 >>= fun v61 =>
          some v61
         else
          some false
        else
         some false
       else none
      else none
     else
      some false
   else none
  else none
end Go.Proofs.YtkbgphcebakcnaaGreat
