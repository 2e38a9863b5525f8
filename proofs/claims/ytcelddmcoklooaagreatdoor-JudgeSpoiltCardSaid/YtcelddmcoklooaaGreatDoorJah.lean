/-
  The functions as plain Lean functions.
-/
import Derived.Test.YtcelddmcoklooaaGreatDoorJaf
set_option linter.unusedSimpArgs false
set_option linter.unusedVariables false
set_option maxRecDepth 100000
namespace Go.Proofs.YtcelddmcoklooaaGreatDoor
open Go Go.Gm
def q02 (s : T.Sel) : Option ((T.Span)) :=
 some (T.Span.mk (if s.head < s.anchor then s.head else s.anchor) (if s.head > s.anchor then s.head else s.anchor))
def q4k (s : T.Span) (n : Int) : Option ((Bool)) :=
 if ((decide (s.frm ≥ 0)) && (decide (s.frm ≤ s.to))) then
  some (decide (s.to ≤ n))
 else
  some false
def q3g : (Int × (Sl T.Sel) × (Sl T.Sel) × Int × Int) → Option ((((Sl T.Sel) × Int) ⊕ (Unit)))
 | (n,l,t14,t15,t16) =>
  if (decide (t16 < t15)) then
   qh t14.l t16 >>= fun x3 =>
   q02 x3 >>= fun v5 =>
   q4k v5 n >>= fun v7 =>
   if (!v7) then
    some (.inl ((⟨true,([] : List T.Sel)⟩ : Sl T.Sel),3))
   else
    q3g (n,l,t14,t15,(IntKind.i64.wrap (t16 + 1)))
  else
   some (.inr ())
 partial_fixpoint
def q81 (s : (Sl T.Sel)) : Option ((((Sl T.Sel)) ⊕ ((List T.Sel)))) :=
 if s.nil then
  some (.inl (⟨true,([] : List T.Sel)⟩ : Sl T.Sel))
 else
  if zx (s.l.length) 16 = true then
   some (.inr s.l)
  else none
def cmp_isNaN_int (x : Int) : Option ((Bool)) :=
 some (x != x)
def cmp_Compare_int (x : Int) (y : Int) : Option ((Int)) :=
 cmp_isNaN_int x >>= fun v2 =>
 cmp_isNaN_int y >>= fun v4 =>
 if v2 then
  if v4 then
   some 0
  else
   some (-1)
 else
 if v4 then
  some 1
 else
 if (decide (x < y)) then
  some (-1)
 else
 if (decide (x > y)) then
  some 1
 else
  some 0
def q5q : (Int × Int × Int × (List Int)) → Option (((Int) ⊕ (Unit)))
 | (zero,t7,t8,t6) =>
  if (decide (t8 < t7)) then
   qh t6 t8 >>= fun x3 =>
   if (x3 != zero) then
    some (.inl x3)
   else
    q5q (zero,t7,(IntKind.i64.wrap (t8 + 1)),t6)
  else
   some (.inr ())
 partial_fixpoint
def q9q (r_ : (List Int)) : Option ((Int)) :=
 q5q (0,(r_.length : Int),0,r_) >>= fun v2 =>
 match v2 with
 | .inl y3 =>
  some y3
 | .inr y4 =>
  some 0
def q7s (a : T.Sel) (b : T.Sel) : Option ((Int)) :=
 q02 a >>= fun v2 =>
 q02 b >>= fun v4 =>
 cmp_Compare_int v2.frm v4.frm >>= fun v6 =>
 cmp_Compare_int v2.to v4.to >>= fun v8 =>
 q9q [v6,v8] >>= fun v10 =>
 some v10
def q8s (data : (Sl T.Sel)) (a : Int) (b : Int) (i : Int) (j : Int) : Option ((Unit)) :=
 if (decide (j > a)) then
  qh data.l j >>= fun x3 =>
  qh data.l (IntKind.i64.wrap (j - 1)) >>= fun x5 =>
  q7s x3 x5 >>= fun v7 =>
  if (decide (v7 < 0)) then
   none
  else
   some ()
 else
  some ()
def q5m : ((Sl T.Sel) × Int × Int × Int) → Option ((Unit))
 | (data,a,b,i) =>
  if (decide (i < b)) then
   q8s data a b i i >>= fun v3 =>
   q5m (data,a,b,(IntKind.i64.wrap (i + 1)))
  else
   some ()
 partial_fixpoint
def q7j (data : (Sl T.Sel)) (a : Int) (b : Int) : Option ((Unit)) :=
 q5m (data,a,b,(IntKind.i64.wrap (a + 1))) >>= fun v2 =>
 some ()
def q5x : ((Sl T.Sel) × Int × Int × Int × Int) → Option ((Int))
 | (data,n,blockSize,a,b) =>
  if (decide (b ≤ n)) then
   q7j data a b >>= fun v3 =>
   q5x (data,n,blockSize,b,(IntKind.i64.wrap (b + blockSize)))
  else
   some a
 partial_fixpoint
def q9i (data : (Sl T.Sel)) (n : Int) (blockSize : Int) (a : Int) (b : Int) : Option ((Unit)) :=
 if (decide (b ≤ n)) then
  none
 else
  some ()
def q5o : ((Sl T.Sel) × Int × Int) → Option ((Unit))
 | (data,n,blockSize) =>
  if (decide (blockSize < n)) then
   q9i data n blockSize 0 (IntKind.i64.wrap (2 * blockSize)) >>= fun v3 =>
   if (decide ((IntKind.i64.wrap (0 + blockSize)) < n)) then
    none
   else
    q5o (data,n,(IntKind.i64.wrap (blockSize * 2)))
  else
   some ()
 partial_fixpoint
def q9k (data : (Sl T.Sel)) (n : Int) : Option ((Unit)) :=
 q5x (data,n,20,0,20) >>= fun v2 =>
 q7j data v2 n >>= fun v4 =>
 q5o (data,n,20) >>= fun v6 =>
 some ()
def q92 (x : (Sl T.Sel)) : Option ((Unit)) :=
 q9k x (x.l.length : Int) >>= fun v2 =>
 some ()
def q8g (a : T.Span) (b : T.Span) : Option ((Bool)) :=
 some (decide ((if b.frm > a.frm then b.frm else a.frm) ≤ (if b.to < a.to then b.to else a.to)))
def q1x : ((Sl T.Sel) × Int × Int × (List T.Sel)) → Option (((List T.Sel)))
 | (t14,t15,t16,out) =>
  if (decide (t16 < t15)) then
   qh t14.l t16 >>= fun x3 =>
   if (decide ((IntKind.i64.wrap ((out.length : Int) - 1)) < 0)) then
    if zx (out.length + 1) 16 = true then
     q1x (t14,t15,(IntKind.i64.wrap (t16 + 1)),(out ++ [x3]))
    else none
   else
    qh out (IntKind.i64.wrap ((out.length : Int) - 1)) >>= fun x7 =>
    q02 x7 >>= fun v9 =>
    q02 x3 >>= fun v11 =>
    q8g v9 v11 >>= fun v13 =>
    if (!v13) then
     if zx (out.length + 1) 16 = true then
      q1x (t14,t15,(IntKind.i64.wrap (t16 + 1)),(out ++ [x3]))
     else none
    else
    if (decide (x7.head < x7.anchor)) then
     q1x (t14,t15,(IntKind.i64.wrap (t16 + 1)),(out.set ((IntKind.i64.wrap ((out.length : Int) - (1 : Int))).toNat) (T.Sel.mk (if v11.to > v9.to then v11.to else v9.to) v9.frm)))
    else
     q1x (t14,t15,(IntKind.i64.wrap (t16 + 1)),(out.set ((IntKind.i64.wrap ((out.length : Int) - (1 : Int))).toNat) (T.Sel.mk v9.frm (if v11.to > v9.to then v11.to else v9.to))))
  else
   some out
 partial_fixpoint
def q5h : (Int × Int × Int × Int × (List T.Sel)) → Option (((List T.Sel)))
 | (a,b,i,j,data) =>
  if (decide (j > a)) then
   qh data j >>= fun x3 =>
   qh data (IntKind.i64.wrap (j - 1)) >>= fun x5 =>
   q7s x3 x5 >>= fun v7 =>
   if (decide (v7 < 0)) then
    qh (data.set j.toNat x5) (IntKind.i64.wrap (j - 1)) >>= fun x10 =>
    q5h (a,b,i,(IntKind.i64.wrap (j - 1)),((data.set j.toNat x5).set ((IntKind.i64.wrap (j - (1 : Int))).toNat) x3))
   else
    some data
  else
   some data
 partial_fixpoint
def q44 : (Int × Int × Int × (List T.Sel)) → Option (((List T.Sel)))
 | (a,b,i,data) =>
  if (decide (i < b)) then
   q5h (a,b,i,i,data) >>= fun v3 =>
   q44 (a,b,(IntKind.i64.wrap (i + 1)),v3)
  else
   some data
 partial_fixpoint
def q4j (a : Int) (b : Int) (r_ : (List T.Sel)) : Option (((List T.Sel))) :=
 q44 (a,b,(IntKind.i64.wrap (a + 1)),r_) >>= fun v2 =>
 some v2
def q4s : (Int × Int × Int × Int × (List T.Sel)) → Option ((Int × (List T.Sel)))
 | (n,blockSize,a,b,data) =>
  if (decide (b ≤ n)) then
   q4j a b data >>= fun v3 =>
   q4s (n,blockSize,b,(IntKind.i64.wrap (b + blockSize)),v3)
  else
   some (a,data)
 partial_fixpoint
def q8q (n : Int) (blockSize : Int) (a : Int) (b : Int) (data : (List T.Sel)) : Option ((Unit)) :=
 if (decide (b ≤ n)) then
  none
 else
  some ()
def q4p : (Int × Int × (List T.Sel)) → Option ((Unit))
 | (n,blockSize,data) =>
  if (decide (blockSize < n)) then
   q8q n blockSize 0 (IntKind.i64.wrap (2 * blockSize)) data >>= fun v3 =>
   if (decide ((IntKind.i64.wrap (0 + blockSize)) < n)) then
    none
   else
    q4p (n,(IntKind.i64.wrap (blockSize * 2)),data)
  else
   some ()
 partial_fixpoint
def q7p (n : Int) (r_ : (List T.Sel)) : Option (((List T.Sel))) :=
 q4s (n,20,0,20,r_) >>= fun v2 =>
 q4j v2.1 n v2.2 >>= fun v4 =>
 q4p (n,20,v4) >>= fun v6 =>
 some v4
def q5g (r_ : (List T.Sel)) : Option (((List T.Sel))) :=
 q7p (r_.length : Int) r_ >>= fun v2 =>
 some v2
def tu : (Int × Int × (List T.Sel) × (List T.Sel)) → Option (((List T.Sel)))
 | (t15,t16,t14,out) =>
  if (decide (t16 < t15)) then
   qh t14 t16 >>= fun x3 =>
   if (decide ((IntKind.i64.wrap ((out.length : Int) - 1)) < 0)) then
    if zx (out.length + 1) 16 = true then
     tu (t15,(IntKind.i64.wrap (t16 + 1)),t14,(out ++ [x3]))
    else none
   else
    qh out (IntKind.i64.wrap ((out.length : Int) - 1)) >>= fun x7 =>
    q02 x7 >>= fun v9 =>
    q02 x3 >>= fun v11 =>
    q8g v9 v11 >>= fun v13 =>
    if (!v13) then
     if zx (out.length + 1) 16 = true then
      tu (t15,(IntKind.i64.wrap (t16 + 1)),t14,(out ++ [x3]))
     else none
    else
    if (decide (x7.head < x7.anchor)) then
     tu (t15,(IntKind.i64.wrap (t16 + 1)),t14,(out.set ((IntKind.i64.wrap ((out.length : Int) - (1 : Int))).toNat) (T.Sel.mk (if v11.to > v9.to then v11.to else v9.to) v9.frm)))
    else
     tu (t15,(IntKind.i64.wrap (t16 + 1)),t14,(out.set ((IntKind.i64.wrap ((out.length : Int) - (1 : Int))).toNat) (T.Sel.mk v9.frm (if v11.to > v9.to then v11.to else v9.to))))
  else
   some out
 partial_fixpoint
def q6e (l : (Sl T.Sel)) : Option (((Sl T.Sel))) :=
 q81 l >>= fun v2 =>
 match v2 with
 | .inl y3 =>
  q92 y3 >>= fun v5 =>
  q1x (y3,(y3.l.length : Int),0,([] : List T.Sel)) >>= fun v7 =>
  some (⟨v7.isEmpty,v7⟩ : Sl T.Sel)
 | .inr y8 =>
  q5g y8 >>= fun v10 =>
  tu ((v10.length : Int),0,v10,([] : List T.Sel)) >>= fun v12 =>
  some (⟨v12.isEmpty,v12⟩ : Sl T.Sel)
def q4i (n : Int) (l : (Sl T.Sel)) : Option (((Sl T.Sel) × Int)) :=
 if ((l.l.length : Int) == 0) then
  some ((⟨true,([] : List T.Sel)⟩ : Sl T.Sel),2)
 else
 if (decide ((l.l.length : Int) > 64)) then
  some ((⟨true,([] : List T.Sel)⟩ : Sl T.Sel),7)
 else
  q3g (n,l,l,(l.l.length : Int),0) >>= fun v4 =>
  match v4 with
  | .inl y5 =>
   some (y5.1,y5.2)
  | .inr y6 =>
   q6e l >>= fun v8 =>
   some (v8,0)
def q2n : ((Sl T.Sel) × (Sl T.Sel) × Int × Int) → Option (((Bool) ⊕ (Unit)))
 | (s1,s2,t12,t13) =>
  if (decide (t13 < t12)) then
   qh s1.l t13 >>= fun x3 =>
   qh s2.l t13 >>= fun x5 =>
   if (!(x3.anchor == x5.anchor && (x3.head == x5.head))) then
    some (.inl false)
   else
    q2n (s1,s2,t12,(IntKind.i64.wrap (t13 + 1)))
  else
   some (.inr ())
 partial_fixpoint
def q3x (s1 : (Sl T.Sel)) (s2 : (Sl T.Sel)) : Option ((Bool)) :=
 if ((s1.l.length : Int) != (s2.l.length : Int)) then
  some false
 else
  q2n (s1,s2,(s1.l.length : Int),0) >>= fun v3 =>
  match v3 with
  | .inl y4 =>
   some y4
  | .inr y5 =>
   some true
def q67 (i : T.qc) (k : Int) : Option ((Int)) :=
 qh i.stops.l k >>= fun x2 =>
 if ((decide (x2.up ≥ 0)) && (decide (x2.up < k))) then
  some x2.up
 else
  some (-1)
def q1b : (Int × Int × T.qc) → Option (((Bool) ⊕ (Unit)))
 | (k,u,i) =>
  if (decide (u ≥ 0)) then
   qh i.stops.l k >>= fun x3 =>
   if (x3.up == u) then
    some (.inl true)
   else
    q67 i u >>= fun v6 =>
    q1b (k,v6,i)
  else
   some (.inr ())
 partial_fixpoint
def q6j (i : T.qc) (k : Int) : Option ((Bool)) :=
 q1b (k,(IntKind.i64.wrap (k - 1)),i) >>= fun v2 =>
 match v2 with
 | .inl y3 =>
  some y3
 | .inr y4 =>
  qh i.stops.l k >>= fun x6 =>
  some (x6.up == (-1))
def q2p (a : T.Span) (b : T.Span) : Option ((Bool)) :=
 if (decide (a.frm ≥ b.frm)) then
  some (decide (a.to ≤ b.to))
 else
  some false
def q0h : ((Sl T.Stop) × Int × Int × T.qc × xk) → Option (((Bool × xk) ⊕ (xk)))
 | (t18,t19,t20,i,ends) =>
  if (decide (t20 < t19)) then
   qh t18.l t20 >>= fun x3 =>
   q6j i t20 >>= fun v5 =>
   if ((!v5) || (decide (x3.span.frm > x3.span.to))) then
    some (.inl (false,ends))
   else
   if (decide (x3.up ≥ 0)) then
    qh i.stops.l x3.up >>= fun x10 =>
    q2p x3.span x10.span >>= fun v12 =>
    if ((!v12) || ((q3h ends x3.up) && (decide (x3.span.frm < (yu ends x3.up))))) then
     some (.inl (false,ends))
    else
     q0h (t18,t19,(IntKind.i64.wrap (t20 + 1)),i,(q0w ends x3.up x3.span.to))
   else
    q2p x3.span i.span >>= fun v17 =>
    if ((!v17) || ((q3h ends x3.up) && (decide (x3.span.frm < (yu ends x3.up))))) then
     some (.inl (false,ends))
    else
     q0h (t18,t19,(IntKind.i64.wrap (t20 + 1)),i,(q0w ends x3.up x3.span.to))
  else
   some (.inr ends)
 partial_fixpoint
def q4d (i : T.qc) (n : Int) : Option ((Bool)) :=
 q4k i.span n >>= fun v2 =>
 if (!v2) then
  some false
 else
  q0h (i.stops,(i.stops.l.length : Int),0,i,(⟨[],0⟩ : xk)) >>= fun v5 =>
  match v5 with
  | .inl y6 =>
   some y6.1
  | .inr y7 =>
   some true
def q8p (y : T.Span) (b : T.Span) : Option ((Bool)) :=
 q2p b y >>= fun v2 =>
 some v2
def q61 : ((Sl T.Span) × Int × Int × T.Span) → Option (((Int) ⊕ (Unit)))
 | (s,t7,t8,f) =>
  if (decide (t8 < t7)) then
   qh s.l t8 >>= fun x3 =>
   q8p x3 f >>= fun v5 =>
   if v5 then
    some (.inl t8)
   else
    q61 (s,t7,(IntKind.i64.wrap (t8 + 1)),f)
  else
   some (.inr ())
 partial_fixpoint
def qak (s : (Sl T.Span)) (b : T.Span) : Option ((Int)) :=
 q61 (s,(s.l.length : Int),0,b) >>= fun v2 =>
 match v2 with
 | .inl y3 =>
  some y3
 | .inr y4 =>
  some (-1)
def q8n (s : (Sl T.Span)) (b : T.Span) : Option ((Bool)) :=
 qak s b >>= fun v2 =>
 some (decide (v2 ≥ 0))
def q7x (x : T.Span) (in_ : (Sl T.Span)) : Option ((Bool)) :=
 q8n in_ x >>= fun v2 =>
 some v2
def q1t : (Int × (Sl T.Span) × Int × Int × Int × Int × (Sl T.qc) × Int × Int × (List T.qb) × Bytes × (Sl T.Sel) × T.qb) → Option (((Bool) ⊕ (Unit)))
 | (n,around,k,end_,t43,t44,t54,t55,t56,t42,b1_,b1_2,s) =>
  if (decide (t56 < t55)) then
   qh t54.l t56 >>= fun x3 =>
   q4d x3 n >>= fun v5 =>
   if ((!v5) || (decide (x3.span.frm < end_))) then
    some (.inl false)
   else
   if (decide (k > 0)) then
    q7x x3.span around >>= fun v10 =>
    if (!v10) then
     some (.inl false)
    else
     q1t (n,around,k,x3.span.to,t43,t44,t54,t55,(IntKind.i64.wrap (t56 + 1)),t42,b1_,b1_2,s)
   else
    q1t (n,around,k,x3.span.to,t43,t44,t54,t55,(IntKind.i64.wrap (t56 + 1)),t42,b1_,b1_2,s)
  else
   some (.inr ())
 partial_fixpoint
def u6 : (Int × (Sl T.qc) × Int × Int × (Sl T.Stop) × Int × Int × (List T.Span) × T.qc) → Option (((List T.Span)))
 | (n,t10,t11,t12,t17,t18,t19,out,b1_) =>
  if (decide (t19 < t18)) then
   qh t17.l t19 >>= fun x3 =>
   if ((x3.n == n) && (!x3.turned)) then
    if zx (out.length + 1) 16 = true then
     u6 (n,t10,t11,t12,t17,t18,(IntKind.i64.wrap (t19 + 1)),(out ++ [x3.span]),b1_)
    else none
   else
    u6 (n,t10,t11,t12,t17,t18,(IntKind.i64.wrap (t19 + 1)),out,b1_)
  else
   some out
 partial_fixpoint
def q1p : (Int × (Sl T.qc) × Int × Int × (List T.Span)) → Option (((List T.Span)))
 | (n,t10,t11,t12,out) =>
  if (decide (t12 < t11)) then
   qh t10.l t12 >>= fun x3 =>
   u6 (n,t10,t11,t12,x3.stops,(x3.stops.l.length : Int),0,out,x3) >>= fun v5 =>
   q1p (n,t10,t11,(IntKind.i64.wrap (t12 + 1)),v5)
  else
   some out
 partial_fixpoint
def q2w (n : Int) (is : (Sl T.qc)) : Option (((Sl T.Span))) :=
 q1p (n,is,(is.l.length : Int),0,([] : List T.Span)) >>= fun v2 =>
 some (⟨v2.isEmpty,v2⟩ : Sl T.Span)
def q2h : (Int × (Sl T.Span) × Int × Int × (List T.qb) × Bytes × (Sl T.Sel)) → Option (((Bool) ⊕ (Unit)))
 | (n,around,t43,t44,t42,b1_,b1_2) =>
  if (decide (t44 < t43)) then
   qh t42 t44 >>= fun x3 =>
   if ((x3.insts.l.length : Int) == 0) then
    some (.inl false)
   else
    q1t (n,around,t44,0,t43,t44,x3.insts,(x3.insts.l.length : Int),0,t42,b1_,b1_2,x3) >>= fun v6 =>
    match v6 with
    | .inl y7 =>
     some (.inl y7)
    | .inr y8 =>
     q2w x3.cur x3.insts >>= fun v10 =>
     q2h (n,v10,t43,(IntKind.i64.wrap (t44 + 1)),t42,b1_,b1_2)
  else
   some (.inr ())
 partial_fixpoint
def q6n (st : Bytes) (st2 : (Sl T.Sel)) (r_ : (List T.qb)) : Option ((Bool)) :=
 q4i (st.length : Int) st2 >>= fun v2 =>
 if ((decide ((st.length : Int) > 65536)) || (v2.2 != 0)) then
  some false
 else
  q3x v2.1 st2 >>= fun v6 =>
  if ((!v6) || (decide ((r_.length : Int) > 8))) then
   some false
  else
   q2h ((st.length : Int),(⟨true,([] : List T.Span)⟩ : Sl T.Span),(r_.length : Int),0,r_,st,st2) >>= fun v10 =>
   match v10 with
   | .inl y11 =>
    some y11
   | .inr y12 =>
    some true
def q11 : ((Sl T.qc) × Int × Int × (Sl T.Stop) × Int × Int × xk × T.qc) → Option ((xk))
 | (t11,t12,t13,t18,t19,t20,in_,b1_) =>
  if (decide (t20 < t19)) then
   qh t18.l t20 >>= fun x3 =>
   if (!x3.turned) then
    q11 (t11,t12,t13,t18,t19,(IntKind.i64.wrap (t20 + 1)),(q0w in_ x3.n (IntKind.i64.wrap ((yu in_ x3.n) + 1))),b1_)
   else
    q11 (t11,t12,t13,t18,t19,(IntKind.i64.wrap (t20 + 1)),in_,b1_)
  else
   some in_
 partial_fixpoint
def q36 : ((Sl T.qc) × Int × Int × xk) → Option ((xk))
 | (t11,t12,t13,in_) =>
  if (decide (t13 < t12)) then
   qh t11.l t13 >>= fun x3 =>
   q11 (t11,t12,t13,x3.stops,(x3.stops.l.length : Int),0,in_,x3) >>= fun v5 =>
   q36 (t11,t12,(IntKind.i64.wrap (t13 + 1)),v5)
  else
   some in_
 partial_fixpoint
def q79 (m : xk) : Option ((Unit)) :=
 some ()
def q4e (is : (Sl T.qc)) : Option (((List Int))) :=
 q36 (is,(is.l.length : Int),0,(⟨[],0⟩ : xk)) >>= fun v2 =>
 q79 (q30 v2 0) >>= fun v4 =>
 q7z (q30 v2 0) >>= fun v6 =>
 if (decide ((yu v2 0) > 0)) then
  if zx (v6.length + 1) 8 = true then
   some (v6 ++ [0])
  else none
 else
  some v6
def q23 : (Bytes × (Sl T.Span) × Int × Int × (Sl T.Span) × Int × Int × T.qc × (List Int)) → Option (((Bool) ⊕ (Unit)))
 | (text,l,t13,t14,t22,t23,t24,i,t12) =>
  if (decide (t24 < t23)) then
   qh t22.l t24 >>= fun x3 =>
   xq text x3.frm x3.to >>= fun r5 =>
   qh l.l 0 >>= fun x7 =>
   xq text x7.frm x7.to >>= fun r9 =>
   if (!(r5 == r9)) then
    some (.inl false)
   else
    q23 (text,l,t13,t14,t22,t23,(IntKind.i64.wrap (t24 + 1)),i,t12)
  else
   some (.inr ())
 partial_fixpoint
def q2o : (Bytes × Int × Int × T.qc × (List Int)) → Option (((Bool) ⊕ (Unit)))
 | (text,t13,t14,i,t12) =>
  if (decide (t14 < t13)) then
   qh t12 t14 >>= fun x3 =>
   q2w x3 (⟨false,[i]⟩ : Sl T.qc) >>= fun v5 =>
   q23 (text,v5,t13,t14,v5,(v5.l.length : Int),0,i,t12) >>= fun v7 =>
   match v7 with
   | .inl y8 =>
    some (.inl y8)
   | .inr y9 =>
    q2o (text,t13,(IntKind.i64.wrap (t14 + 1)),i,t12)
  else
   some (.inr ())
 partial_fixpoint
def q41 (text : Bytes) (i : T.qc) : Option ((Bool)) :=
 q4e (⟨false,[i]⟩ : Sl T.qc) >>= fun v2 =>
 q2o (text,(v2.length : Int),0,i,v2) >>= fun v4 =>
 match v4 with
 | .inl y5 =>
  some y5
 | .inr y6 =>
  some true
def q6w (a : T.qb) (i : T.qc) (b : Bytes) (b_2 : (Sl T.Sel)) (r_ : (List T.qb)) : Option ((Bool)) :=
 q41 b i >>= fun v2 =>
 some v2
def q3r : (Int × Int × (Sl T.qc) × Int × Int × (List T.qb) × Bytes × (Sl T.Sel) × Bytes × (Sl T.Sel) × T.qb) → Option (((Bool) ⊕ (Unit)))
 | (t11,t12,t17,t18,t19,t10,so,so2,b2_,b2_2,s) =>
  if (decide (t19 < t18)) then
   qh t17.l t19 >>= fun x3 =>
   q6w s x3 so so2 t10 >>= fun v5 =>
   if (!v5) then
    some (.inl false)
   else
    q3r (t11,t12,t17,t18,(IntKind.i64.wrap (t19 + 1)),t10,so,so2,b2_,b2_2,s)
  else
   some (.inr ())
 partial_fixpoint
def q33 : (Int × Int × (List T.qb) × Bytes × (Sl T.Sel) × Bytes × (Sl T.Sel)) → Option (((Bool) ⊕ (Unit)))
 | (t11,t12,t10,so,so2,b2_,b2_2) =>
  if (decide (t12 < t11)) then
   qh t10 t12 >>= fun x3 =>
   q3r (t11,t12,x3.insts,(x3.insts.l.length : Int),0,t10,so,so2,b2_,b2_2,x3) >>= fun v5 =>
   match v5 with
   | .inl y6 =>
    some (.inl y6)
   | .inr y7 =>
    q33 (t11,(IntKind.i64.wrap (t12 + 1)),t10,so,so2,b2_,b2_2)
  else
   some (.inr ())
 partial_fixpoint
def q55 (st : Bytes) (st2 : (Sl T.Sel)) (r_ : (List T.qb)) (b : Bytes) (b_2 : (Sl T.Sel)) : Option ((Bool)) :=
 q33 ((r_.length : Int),0,r_,b,b_2,st,st2) >>= fun v2 =>
 match v2 with
 | .inl y3 =>
  some y3
 | .inr y4 =>
  some true
def gy : (Int × (Sl Bool) × Int × Int × Int × Int × T.qc) → Option ((Int × Int × Int))
 | (n,held,of,first,any_,k,i) =>
  if (decide (k ≥ 0)) then
   qh i.stops.l k >>= fun x3 =>
   if ((x3.n != n) || x3.turned) then
    gy (n,held,of,first,any_,(IntKind.i64.wrap (k - 1)),i)
   else
   if x3.first then
    if (decide (k < (held.l.length : Int))) then
     qh held.l k >>= fun x9 =>
     if x9 then
      gy (n,held,k,k,k,(IntKind.i64.wrap (k - 1)),i)
     else
      gy (n,held,of,k,k,(IntKind.i64.wrap (k - 1)),i)
    else
     gy (n,held,of,k,k,(IntKind.i64.wrap (k - 1)),i)
   else
   if (decide (k < (held.l.length : Int))) then
    qh held.l k >>= fun x13 =>
    if x13 then
     gy (n,held,k,first,k,(IntKind.i64.wrap (k - 1)),i)
    else
     gy (n,held,of,first,k,(IntKind.i64.wrap (k - 1)),i)
   else
    gy (n,held,of,first,k,(IntKind.i64.wrap (k - 1)),i)
  else
   some (of,first,any_)
 partial_fixpoint
def q98 (i : T.qc) (n : Int) (held : (Sl Bool)) : Option ((Int)) :=
 gy (n,held,(-1),(-1),(-1),(IntKind.i64.wrap ((i.stops.l.length : Int) - 1)),i) >>= fun v2 =>
 if (decide (v2.1 ≥ 0)) then
  some v2.1
 else
 if (decide (v2.2.1 ≥ 0)) then
  some v2.2.1
 else
  some v2.2.2
def q0g : (Bytes × (Sl T.Stop) × Int × Int × T.qc) → Option ((Unit))
 | (text,t13,t14,t15,i) =>
  if (decide (t15 < t14)) then
   qh t13.l t15 >>= fun x3 =>
   if (!x3.turned) then
    q0g (text,t13,t14,(IntKind.i64.wrap (t15 + 1)),i)
   else
    q98 i x3.n (⟨true,([] : List Bool)⟩ : Sl Bool) >>= fun v6 =>
    if (decide (v6 < 0)) then
     q0g (text,t13,t14,(IntKind.i64.wrap (t15 + 1)),i)
    else
     qh i.stops.l v6 >>= fun x9 =>
     xq text x9.span.frm x9.span.to >>= fun r11 =>
     none
  else
   some ()
 partial_fixpoint
def q4c (text : Bytes) (i : T.qc) : Option ((Bool)) :=
 q0g (text,i.stops,(i.stops.l.length : Int),0,i) >>= fun v2 =>
 some true
def q8i (a : T.qb) (i : T.qc) (b : Bytes) (b_2 : (Sl T.Sel)) (r_ : (List T.qb)) : Option ((Bool)) :=
 q4c b i >>= fun v2 =>
 some v2
def q2i : (Int × Int × (Sl T.qc) × Int × Int × (List T.qb) × Bytes × (Sl T.Sel) × Bytes × (Sl T.Sel) × T.qb) → Option (((Bool) ⊕ (Unit)))
 | (t11,t12,t17,t18,t19,t10,so,so2,b2_,b2_2,s) =>
  if (decide (t19 < t18)) then
   qh t17.l t19 >>= fun x3 =>
   q8i s x3 so so2 t10 >>= fun v5 =>
   if (!v5) then
    some (.inl false)
   else
    q2i (t11,t12,t17,t18,(IntKind.i64.wrap (t19 + 1)),t10,so,so2,b2_,b2_2,s)
  else
   some (.inr ())
 partial_fixpoint
def q2m : (Int × Int × (List T.qb) × Bytes × (Sl T.Sel) × Bytes × (Sl T.Sel)) → Option (((Bool) ⊕ (Unit)))
 | (t11,t12,t10,so,so2,b2_,b2_2) =>
  if (decide (t12 < t11)) then
   qh t10 t12 >>= fun x3 =>
   q2i (t11,t12,x3.insts,(x3.insts.l.length : Int),0,t10,so,so2,b2_,b2_2,x3) >>= fun v5 =>
   match v5 with
   | .inl y6 =>
    some (.inl y6)
   | .inr y7 =>
    q2m (t11,(IntKind.i64.wrap (t12 + 1)),t10,so,so2,b2_,b2_2)
  else
   some (.inr ())
 partial_fixpoint
def q5p (st : Bytes) (st2 : (Sl T.Sel)) (r_ : (List T.qb)) (b : Bytes) (b_2 : (Sl T.Sel)) : Option ((Bool)) :=
 q2m ((r_.length : Int),0,r_,b,b_2,st,st2) >>= fun v2 =>
 match v2 with
 | .inl y3 =>
  some y3
 | .inr y4 =>
  some true
def q3b : ((Sl Int) × Int × Int × Int) → Option (((Int) ⊕ (Unit)))
 | (s,v,t7,t8) =>
  if (decide (t8 < t7)) then
   qh s.l t8 >>= fun x3 =>
   if (v == x3) then
    some (.inl t8)
   else
    q3b (s,v,t7,(IntKind.i64.wrap (t8 + 1)))
  else
   some (.inr ())
 partial_fixpoint
def q7m (s : (Sl Int)) (v : Int) : Option ((Int)) :=
 q3b (s,v,(s.l.length : Int),0) >>= fun v2 =>
 match v2 with
 | .inl y3 =>
  some y3
 | .inr y4 =>
  some (-1)
def q73 (v : Int) (r_ : (List Int)) : Option ((Bool)) :=
 q7m (⟨r_.isEmpty,r_⟩ : Sl Int) v >>= fun v2 =>
 some (decide (v2 ≥ 0))
def q4b (s : T.qb) : Option ((Bool)) :=
 q4e s.insts >>= fun v2 =>
 q73 s.cur v2 >>= fun v4 =>
 some (!v4)
def q3k : (Int × Int × (List T.qb)) → Option (((Int) ⊕ (Unit)))
 | (t7,t8,s) =>
  if (decide (t8 < t7)) then
   qh s t8 >>= fun x3 =>
   q4b x3 >>= fun v5 =>
   if v5 then
    some (.inl t8)
   else
    q3k (t7,(IntKind.i64.wrap (t8 + 1)),s)
  else
   some (.inr ())
 partial_fixpoint
def q6x (r_ : (List T.qb)) : Option ((Int)) :=
 q3k ((r_.length : Int),0,r_) >>= fun v2 =>
 match v2 with
 | .inl y3 =>
  some y3
 | .inr y4 =>
  some (-1)
def q5j (r_ : (List T.qb)) : Option ((Bool)) :=
 q6x r_ >>= fun v2 =>
 some (decide (v2 ≥ 0))
def yw (st : Bytes) (st2 : (Sl T.Sel)) (r_ : (List T.qb)) : Option ((Int)) :=
 q6n st st2 r_ >>= fun v2 =>
 if (!v2) then
  some 1
 else
  q55 st st2 r_ st st2 >>= fun v5 =>
  if (!v5) then
   some 2
  else
   q5p st st2 r_ st st2 >>= fun v8 =>
   if (!v8) then
    some 3
   else
    q5j r_ >>= fun v11 =>
    if (!v11) then
     some 0
    else
     some 4
def q5w (x : Int) (n : Int) : Option ((Int)) :=
 if (IntKind.u64.wrap n) ≠ 0 then
  some (IntKind.i64.wrap ((IntKind.u64.wrap x).tmod (IntKind.u64.wrap n)))
 else none
def q4t : (Int × (Sl T.Span) × Int × Int × (Sl T.qb) × Int × Int × (Sl T.qc) × Int × Int × T.State × T.qb) → Option (((Bool) ⊕ (Unit)))
 | (n,around,k,end_,t42,t43,t44,t54,t55,t56,b0_,s) =>
  if (decide (t56 < t55)) then
   qh t54.l t56 >>= fun x3 =>
   q4d x3 n >>= fun v5 =>
   if ((!v5) || (decide (x3.span.frm < end_))) then
    some (.inl false)
   else
   if (decide (k > 0)) then
    q7x x3.span around >>= fun v10 =>
    if (!v10) then
     some (.inl false)
    else
     q4t (n,around,k,x3.span.to,t42,t43,t44,t54,t55,(IntKind.i64.wrap (t56 + 1)),b0_,s)
   else
    q4t (n,around,k,x3.span.to,t42,t43,t44,t54,t55,(IntKind.i64.wrap (t56 + 1)),b0_,s)
  else
   some (.inr ())
 partial_fixpoint
def q54 : (Int × (Sl T.Span) × (Sl T.qb) × Int × Int × T.State) → Option (((Bool) ⊕ (Unit)))
 | (n,around,t42,t43,t44,b0_) =>
  if (decide (t44 < t43)) then
   qh t42.l t44 >>= fun x3 =>
   if ((x3.insts.l.length : Int) == 0) then
    some (.inl false)
   else
    q4t (n,around,t44,0,t42,t43,t44,x3.insts,(x3.insts.l.length : Int),0,b0_,x3) >>= fun v6 =>
    match v6 with
    | .inl y7 =>
     some (.inl y7)
    | .inr y8 =>
     q2w x3.cur x3.insts >>= fun v10 =>
     q54 (n,v10,t42,t43,(IntKind.i64.wrap (t44 + 1)),b0_)
  else
   some (.inr ())
 partial_fixpoint
def q5y (st : T.State) : Option ((Bool)) :=
 q4i (st.text.length : Int) st.sels >>= fun v2 =>
 if ((decide ((st.text.length : Int) > 65536)) || (v2.2 != 0)) then
  some false
 else
  q3x v2.1 st.sels >>= fun v6 =>
  if ((!v6) || (decide ((st.sessions.l.length : Int) > 8))) then
   some false
  else
   q54 ((st.text.length : Int),(⟨true,([] : List T.Span)⟩ : Sl T.Span),st.sessions,(st.sessions.l.length : Int),0,st) >>= fun v10 =>
   match v10 with
   | .inl y11 =>
    some y11
   | .inr y12 =>
    some true
def q9e (a : T.qb) (i : T.qc) (b : T.State) : Option ((Bool)) :=
 q41 b.text i >>= fun v2 =>
 some v2
def q62 : ((Sl T.qb) × Int × Int × (Sl T.qc) × Int × Int × T.State × T.State × T.qb) → Option (((Bool) ⊕ (Unit)))
 | (t10,t11,t12,t17,t18,t19,so,b1_,s) =>
  if (decide (t19 < t18)) then
   qh t17.l t19 >>= fun x3 =>
   q9e s x3 so >>= fun v5 =>
   if (!v5) then
    some (.inl false)
   else
    q62 (t10,t11,t12,t17,t18,(IntKind.i64.wrap (t19 + 1)),so,b1_,s)
  else
   some (.inr ())
 partial_fixpoint
def q4x : ((Sl T.qb) × Int × Int × T.State × T.State) → Option (((Bool) ⊕ (Unit)))
 | (t10,t11,t12,so,b1_) =>
  if (decide (t12 < t11)) then
   qh t10.l t12 >>= fun x3 =>
   q62 (t10,t11,t12,x3.insts,(x3.insts.l.length : Int),0,so,b1_,x3) >>= fun v5 =>
   match v5 with
   | .inl y6 =>
    some (.inl y6)
   | .inr y7 =>
    q4x (t10,t11,(IntKind.i64.wrap (t12 + 1)),so,b1_)
  else
   some (.inr ())
 partial_fixpoint
def q5n (st : T.State) (b : T.State) : Option ((Bool)) :=
 q4x (st.sessions,(st.sessions.l.length : Int),0,b,st) >>= fun v2 =>
 match v2 with
 | .inl y3 =>
  some y3
 | .inr y4 =>
  some true
def qaa (a : T.qb) (i : T.qc) (b : T.State) : Option ((Bool)) :=
 q4c b.text i >>= fun v2 =>
 some v2
def q6b : ((Sl T.qb) × Int × Int × (Sl T.qc) × Int × Int × T.State × T.State × T.qb) → Option (((Bool) ⊕ (Unit)))
 | (t10,t11,t12,t17,t18,t19,so,b1_,s) =>
  if (decide (t19 < t18)) then
   qh t17.l t19 >>= fun x3 =>
   qaa s x3 so >>= fun v5 =>
   if (!v5) then
    some (.inl false)
   else
    q6b (t10,t11,t12,t17,t18,(IntKind.i64.wrap (t19 + 1)),so,b1_,s)
  else
   some (.inr ())
 partial_fixpoint
def q4a : ((Sl T.qb) × Int × Int × T.State × T.State) → Option (((Bool) ⊕ (Unit)))
 | (t10,t11,t12,so,b1_) =>
  if (decide (t12 < t11)) then
   qh t10.l t12 >>= fun x3 =>
   q6b (t10,t11,t12,x3.insts,(x3.insts.l.length : Int),0,so,b1_,x3) >>= fun v5 =>
   match v5 with
   | .inl y6 =>
    some (.inl y6)
   | .inr y7 =>
    q4a (t10,t11,(IntKind.i64.wrap (t12 + 1)),so,b1_)
  else
   some (.inr ())
 partial_fixpoint
def q6k (st : T.State) (b : T.State) : Option ((Bool)) :=
 q4a (st.sessions,(st.sessions.l.length : Int),0,b,st) >>= fun v2 =>
 match v2 with
 | .inl y3 =>
  some y3
 | .inr y4 =>
  some true
def q4r : ((Sl T.qb) × Int × Int) → Option (((Int) ⊕ (Unit)))
 | (s,t7,t8) =>
  if (decide (t8 < t7)) then
   qh s.l t8 >>= fun x3 =>
   q4b x3 >>= fun v5 =>
   if v5 then
    some (.inl t8)
   else
    q4r (s,t7,(IntKind.i64.wrap (t8 + 1)))
  else
   some (.inr ())
 partial_fixpoint
def q7e (s : (Sl T.qb)) : Option ((Int)) :=
 q4r (s,(s.l.length : Int),0) >>= fun v2 =>
 match v2 with
 | .inl y3 =>
  some y3
 | .inr y4 =>
  some (-1)
def q64 (s : (Sl T.qb)) : Option ((Bool)) :=
 q7e s >>= fun v2 =>
 some (decide (v2 ≥ 0))
def q1e (st : T.State) : Option ((Int)) :=
 q5y st >>= fun v2 =>
 if (!v2) then
  some 1
 else
  q5n st st >>= fun v5 =>
  if (!v5) then
   some 2
  else
   q6k st st >>= fun v8 =>
   if (!v8) then
    some 3
   else
    q64 st.sessions >>= fun v11 =>
    if (!v11) then
     some 0
    else
     some 4
def q6s (s : Bytes) (t : Bytes) (at_ : Int) (to : UInt8) : Option ((Bool)) :=
 if (((s.length : Int) == 0) || ((decide ((s.length : Int) > 20)) || (decide ((t.length : Int) > 20)))) then
  aw4 >>= fun v3 =>
  some v3
 else
  if s.length + t.length ≤ 2 ^ 62 then
   if (s ++ t).length + s.length ≤ 2 ^ 62 then
    yw ((s ++ t) ++ s) (⟨false,[(T.Sel.mk 0 0)]⟩ : Sl T.Sel) [(T.qb.mk 3 (⟨false,[(T.qc.mk (T.Span.mk 0 (IntKind.i64.wrap ((IntKind.i64.wrap (2 * (s.length : Int))) + (t.length : Int)))) (⟨false,[(T.Stop.mk (T.Span.mk 0 (s.length : Int)) 3 (-1) true false (T.Form.mk (T.Rx.mk 0 ([] : Bytes) false (⟨true,[]⟩ : (Sl T.Row)) 0 0 false (⟨true,[]⟩ : (Sl T.Rx))) (⟨true,[]⟩ : (Sl T.Fmt)) false false) (⟨true,[]⟩ : (Sl Bytes))),(T.Stop.mk (T.Span.mk (IntKind.i64.wrap ((s.length : Int) + (t.length : Int))) (IntKind.i64.wrap ((IntKind.i64.wrap (2 * (s.length : Int))) + (t.length : Int)))) 3 (-1) false false (T.Form.mk (T.Rx.mk 0 ([] : Bytes) false (⟨true,[]⟩ : (Sl T.Row)) 0 0 false (⟨true,[]⟩ : (Sl T.Rx))) (⟨true,[]⟩ : (Sl T.Fmt)) false false) (⟨true,[]⟩ : (Sl Bytes)))]⟩ : (Sl T.Stop)))]⟩ : (Sl T.qc)))] >>= fun v13 =>
    q5w at_ (((s ++ t) ++ s).length : Int) >>= fun v15 =>
    qh ((s ++ t) ++ s) v15 >>= fun x17 =>
    if ((x17.toNat : Int) == (to.toNat : Int)) then
     yw (((s ++ t) ++ s).set v15.toNat to) (⟨false,[(T.Sel.mk 0 0)]⟩ : Sl T.Sel) [(T.qb.mk 3 (⟨false,[(T.qc.mk (T.Span.mk 0 (IntKind.i64.wrap ((IntKind.i64.wrap (2 * (s.length : Int))) + (t.length : Int)))) (⟨false,[(T.Stop.mk (T.Span.mk 0 (s.length : Int)) 3 (-1) true false (T.Form.mk (T.Rx.mk 0 ([] : Bytes) false (⟨true,[]⟩ : (Sl T.Row)) 0 0 false (⟨true,[]⟩ : (Sl T.Rx))) (⟨true,[]⟩ : (Sl T.Fmt)) false false) (⟨true,[]⟩ : (Sl Bytes))),(T.Stop.mk (T.Span.mk (IntKind.i64.wrap ((s.length : Int) + (t.length : Int))) (IntKind.i64.wrap ((IntKind.i64.wrap (2 * (s.length : Int))) + (t.length : Int)))) 3 (-1) false false (T.Form.mk (T.Rx.mk 0 ([] : Bytes) false (⟨true,[]⟩ : (Sl T.Row)) 0 0 false (⟨true,[]⟩ : (Sl T.Rx))) (⟨true,[]⟩ : (Sl T.Fmt)) false false) (⟨true,[]⟩ : (Sl Bytes)))]⟩ : (Sl T.Stop)))]⟩ : (Sl T.qc)))] >>= fun v20 =>
     yw (((s ++ t) ++ s).set v15.toNat to) (⟨false,[(T.Sel.mk 0 0)]⟩ : Sl T.Sel) [(T.qb.mk 4 (⟨false,[(T.qc.mk (T.Span.mk 0 (IntKind.i64.wrap ((IntKind.i64.wrap (2 * (s.length : Int))) + (t.length : Int)))) (⟨false,[(T.Stop.mk (T.Span.mk 0 (s.length : Int)) 3 (-1) true false (T.Form.mk (T.Rx.mk 0 ([] : Bytes) false (⟨true,[]⟩ : (Sl T.Row)) 0 0 false (⟨true,[]⟩ : (Sl T.Rx))) (⟨true,[]⟩ : (Sl T.Fmt)) false false) (⟨true,[]⟩ : (Sl Bytes))),(T.Stop.mk (T.Span.mk (IntKind.i64.wrap ((s.length : Int) + (t.length : Int))) (IntKind.i64.wrap ((IntKind.i64.wrap (2 * (s.length : Int))) + (t.length : Int)))) 3 (-1) false false (T.Form.mk (T.Rx.mk 0 ([] : Bytes) false (⟨true,[]⟩ : (Sl T.Row)) 0 0 false (⟨true,[]⟩ : (Sl T.Rx))) (⟨true,[]⟩ : (Sl T.Fmt)) false false) (⟨true,[]⟩ : (Sl Bytes)))]⟩ : (Sl T.Stop)))]⟩ : (Sl T.qc)))] >>= fun v22 =>
     if ((v13 != 0) || ((v20 != 0) || (v22 != 4))) then
      some false
     else
      q1e (T.State.mk (((s ++ t) ++ s).set v15.toNat to) (⟨false,[(T.Sel.mk 0 0)]⟩ : (Sl T.Sel)) (⟨true,([] : List T.qb)⟩ : (Sl T.qb))) >>= fun v27 =>
      if (v27 == 0) then
       aw4 >>= fun v30 =>
       some v30
      else
       some false
    else
    if (decide (v15 ≥ (s.length : Int))) then
     yw (((s ++ t) ++ s).set v15.toNat to) (⟨false,[(T.Sel.mk 0 0)]⟩ : Sl T.Sel) [(T.qb.mk 3 (⟨false,[(T.qc.mk (T.Span.mk 0 (IntKind.i64.wrap ((IntKind.i64.wrap (2 * (s.length : Int))) + (t.length : Int)))) (⟨false,[(T.Stop.mk (T.Span.mk 0 (s.length : Int)) 3 (-1) true false (T.Form.mk (T.Rx.mk 0 ([] : Bytes) false (⟨true,[]⟩ : (Sl T.Row)) 0 0 false (⟨true,[]⟩ : (Sl T.Rx))) (⟨true,[]⟩ : (Sl T.Fmt)) false false) (⟨true,[]⟩ : (Sl Bytes))),(T.Stop.mk (T.Span.mk (IntKind.i64.wrap ((s.length : Int) + (t.length : Int))) (IntKind.i64.wrap ((IntKind.i64.wrap (2 * (s.length : Int))) + (t.length : Int)))) 3 (-1) false false (T.Form.mk (T.Rx.mk 0 ([] : Bytes) false (⟨true,[]⟩ : (Sl T.Row)) 0 0 false (⟨true,[]⟩ : (Sl T.Rx))) (⟨true,[]⟩ : (Sl T.Fmt)) false false) (⟨true,[]⟩ : (Sl Bytes)))]⟩ : (Sl T.Stop)))]⟩ : (Sl T.qc)))] >>= fun v33 =>
     yw (((s ++ t) ++ s).set v15.toNat to) (⟨false,[(T.Sel.mk 0 0)]⟩ : Sl T.Sel) [(T.qb.mk 4 (⟨false,[(T.qc.mk (T.Span.mk 0 (IntKind.i64.wrap ((IntKind.i64.wrap (2 * (s.length : Int))) + (t.length : Int)))) (⟨false,[(T.Stop.mk (T.Span.mk 0 (s.length : Int)) 3 (-1) true false (T.Form.mk (T.Rx.mk 0 ([] : Bytes) false (⟨true,[]⟩ : (Sl T.Row)) 0 0 false (⟨true,[]⟩ : (Sl T.Rx))) (⟨true,[]⟩ : (Sl T.Fmt)) false false) (⟨true,[]⟩ : (Sl Bytes))),(T.Stop.mk (T.Span.mk (IntKind.i64.wrap ((s.length : Int) + (t.length : Int))) (IntKind.i64.wrap ((IntKind.i64.wrap (2 * (s.length : Int))) + (t.length : Int)))) 3 (-1) false false (T.Form.mk (T.Rx.mk 0 ([] : Bytes) false (⟨true,[]⟩ : (Sl T.Row)) 0 0 false (⟨true,[]⟩ : (Sl T.Rx))) (⟨true,[]⟩ : (Sl T.Fmt)) false false) (⟨true,[]⟩ : (Sl Bytes)))]⟩ : (Sl T.Stop)))]⟩ : (Sl T.qc)))] >>= fun v35 =>
     if (v13 != 0) then
      some false
     else
     if (decide (v15 < (IntKind.i64.wrap ((s.length : Int) + (t.length : Int))))) then
      if ((v33 != 0) || (v35 != 4)) then
       some false
      else
       q1e (T.State.mk (((s ++ t) ++ s).set v15.toNat to) (⟨false,[(T.Sel.mk 0 0)]⟩ : (Sl T.Sel)) (⟨true,([] : List T.qb)⟩ : (Sl T.qb))) >>= fun v41 =>
       if (v41 == 0) then
        aw4 >>= fun v44 =>
        some v44
       else
        some false
     else
     if ((v33 != 2) || (v35 != 2)) then
      some false
     else
      q1e (T.State.mk (((s ++ t) ++ s).set v15.toNat to) (⟨false,[(T.Sel.mk 0 0)]⟩ : (Sl T.Sel)) (⟨true,([] : List T.qb)⟩ : (Sl T.qb))) >>= fun v48 =>
      if (v48 == 0) then
       aw4 >>= fun v51 =>
       some v51
      else
       some false
    else
     yw (((s ++ t) ++ s).set v15.toNat to) (⟨false,[(T.Sel.mk 0 0)]⟩ : Sl T.Sel) [(T.qb.mk 3 (⟨false,[(T.qc.mk (T.Span.mk 0 (IntKind.i64.wrap ((IntKind.i64.wrap (2 * (s.length : Int))) + (t.length : Int)))) (⟨false,[(T.Stop.mk (T.Span.mk 0 (s.length : Int)) 3 (-1) true false (T.Form.mk (T.Rx.mk 0 ([] : Bytes) false (⟨true,[]⟩ : (Sl T.Row)) 0 0 false (⟨true,[]⟩ : (Sl T.Rx))) (⟨true,[]⟩ : (Sl T.Fmt)) false false) (⟨true,[]⟩ : (Sl Bytes))),(T.Stop.mk (T.Span.mk (IntKind.i64.wrap ((s.length : Int) + (t.length : Int))) (IntKind.i64.wrap ((IntKind.i64.wrap (2 * (s.length : Int))) + (t.length : Int)))) 3 (-1) false false (T.Form.mk (T.Rx.mk 0 ([] : Bytes) false (⟨true,[]⟩ : (Sl T.Row)) 0 0 false (⟨true,[]⟩ : (Sl T.Rx))) (⟨true,[]⟩ : (Sl T.Fmt)) false false) (⟨true,[]⟩ : (Sl Bytes)))]⟩ : (Sl T.Stop)))]⟩ : (Sl T.qc)))] >>= fun v53 =>
     yw (((s ++ t) ++ s).set v15.toNat to) (⟨false,[(T.Sel.mk 0 0)]⟩ : Sl T.Sel) [(T.qb.mk 4 (⟨false,[(T.qc.mk (T.Span.mk 0 (IntKind.i64.wrap ((IntKind.i64.wrap (2 * (s.length : Int))) + (t.length : Int)))) (⟨false,[(T.Stop.mk (T.Span.mk 0 (s.length : Int)) 3 (-1) true false (T.Form.mk (T.Rx.mk 0 ([] : Bytes) false (⟨true,[]⟩ : (Sl T.Row)) 0 0 false (⟨true,[]⟩ : (Sl T.Rx))) (⟨true,[]⟩ : (Sl T.Fmt)) false false) (⟨true,[]⟩ : (Sl Bytes))),(T.Stop.mk (T.Span.mk (IntKind.i64.wrap ((s.length : Int) + (t.length : Int))) (IntKind.i64.wrap ((IntKind.i64.wrap (2 * (s.length : Int))) + (t.length : Int)))) 3 (-1) false false (T.Form.mk (T.Rx.mk 0 ([] : Bytes) false (⟨true,[]⟩ : (Sl T.Row)) 0 0 false (⟨true,[]⟩ : (Sl T.Rx))) (⟨true,[]⟩ : (Sl T.Fmt)) false false) (⟨true,[]⟩ : (Sl Bytes)))]⟩ : (Sl T.Stop)))]⟩ : (Sl T.qc)))] >>= fun v55 =>
     if ((v13 != 0) || ((v53 != 2) || (v55 != 2))) then
      some false
     else
      q1e (T.State.mk (((s ++ t) ++ s).set v15.toNat to) (⟨false,[(T.Sel.mk 0 0)]⟩ : (Sl T.Sel)) (⟨true,([] : List T.qb)⟩ : (Sl T.qb))) >>= fun v60 =>
      if (v60 == 0) then
       aw4 >>= fun v63 =>
       some v63
      else
       some false
   else none
  else none
end Go.Proofs.YtcelddmcoklooaaGreatDoor
