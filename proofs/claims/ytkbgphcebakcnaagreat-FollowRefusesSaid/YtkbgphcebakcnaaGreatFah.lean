/-
  The functions as plain Lean functions.
-/
import Derived.Test.YtkbgphcebakcnaaGreatFag
set_option linter.unusedSimpArgs false
set_option linter.unusedVariables false
set_option maxRecDepth 100000
namespace Go.Proofs.YtkbgphcebakcnaaGreat
open Go Go.Gm
def q23 : (Int × (Sl T.q9) × Int) → Option (((Bool) ⊕ (Unit)))
 | (n,es,i) =>
  if (decide (i < (es.l.length : Int))) then
   qc es.l i >>= fun x3 =>
   if (decide ((x3.text.length : Int) > n)) then
    some (.inl true)
   else
    q23 ((IntKind.i64.wrap (n - (x3.text.length : Int))),es,(IntKind.i64.wrap (i + 1)))
  else
   some (.inr ())
 partial_fixpoint
def q43 (many : Int) (n : Int) (es : (Sl T.q9)) : Option ((Bool)) :=
 if (decide ((es.l.length : Int) > many)) then
  some true
 else
  q23 (n,es,0) >>= fun v3 =>
  match v3 with
  | .inl y4 =>
   some y4
  | .inr y5 =>
   some false
def gm (s : T.Sel) : Option ((T.Span)) :=
 some (T.Span.mk (if s.head < s.anchor then s.head else s.anchor) (if s.head > s.anchor then s.head else s.anchor))
def q1b (s : T.Span) (n : Int) : Option ((Bool)) :=
 if ((decide (s.frm ≥ 0)) && (decide (s.frm ≤ s.to))) then
  some (decide (s.to ≤ n))
 else
  some false
def q27 : (Int × (Sl T.Sel) × (Sl T.Sel) × Int × Int) → Option ((((Sl T.Sel) × Int) ⊕ (Unit)))
 | (n,l,t14,t15,t16) =>
  if (decide (t16 < t15)) then
   qc t14.l t16 >>= fun x3 =>
   gm x3 >>= fun v5 =>
   q1b v5 n >>= fun v7 =>
   if (!v7) then
    some (.inl ((⟨true,([] : List T.Sel)⟩ : Sl T.Sel),3))
   else
    q27 (n,l,t14,t15,(IntKind.i64.wrap (t16 + 1)))
  else
   some (.inr ())
 partial_fixpoint
def ni (s : (Sl T.Sel)) : Option ((((Sl T.Sel)) ⊕ ((List T.Sel)))) :=
 if s.nil then
  some (.inl (⟨true,([] : List T.Sel)⟩ : Sl T.Sel))
 else
  if qx (s.l.length) 16 = true then
   some (.inr s.l)
  else none
def cmp_isNaN_int (x : Int) : Option ((Bool)) :=
 some (x != x)
def cmp_Compare_int (x : Int) (y : Int) : Option ((Int)) :=
 cmp_isNaN_int x >>= fun v2 =>
 cmp_isNaN_int y >>= fun v4 =>
 if v2 then
  if v4 then
   some 0
  else
   some (-1)
 else
 if v4 then
  some 1
 else
 if (decide (x < y)) then
  some (-1)
 else
 if (decide (x > y)) then
  some 1
 else
  some 0
def q0f : (Int × Int × Int × (List Int)) → Option (((Int) ⊕ (Unit)))
 | (zero,t7,t8,t6) =>
  if (decide (t8 < t7)) then
   qc t6 t8 >>= fun x3 =>
   if (x3 != zero) then
    some (.inl x3)
   else
    q0f (zero,t7,(IntKind.i64.wrap (t8 + 1)),t6)
  else
   some (.inr ())
 partial_fixpoint
def q06 (r_ : (List Int)) : Option ((Int)) :=
 q0f (0,(r_.length : Int),0,r_) >>= fun v2 =>
 match v2 with
 | .inl y3 =>
  some y3
 | .inr y4 =>
  some 0
def q3w (a : T.Sel) (b : T.Sel) : Option ((Int)) :=
 gm a >>= fun v2 =>
 gm b >>= fun v4 =>
 cmp_Compare_int v2.frm v4.frm >>= fun v6 =>
 cmp_Compare_int v2.to v4.to >>= fun v8 =>
 q06 [v6,v8] >>= fun v10 =>
 some v10
def q7f (data : (Sl T.Sel)) (a : Int) (b : Int) (i : Int) (j : Int) : Option ((Unit)) :=
 if (decide (j > a)) then
  qc data.l j >>= fun x3 =>
  qc data.l (IntKind.i64.wrap (j - 1)) >>= fun x5 =>
  q3w x3 x5 >>= fun v7 =>
  if (decide (v7 < 0)) then
   none
  else
   some ()
 else
  some ()
def q2i : ((Sl T.Sel) × Int × Int × Int) → Option ((Unit))
 | (data,a,b,i) =>
  if (decide (i < b)) then
   q7f data a b i i >>= fun v3 =>
   q2i (data,a,b,(IntKind.i64.wrap (i + 1)))
  else
   some ()
 partial_fixpoint
def q5h (data : (Sl T.Sel)) (a : Int) (b : Int) : Option ((Unit)) :=
 q2i (data,a,b,(IntKind.i64.wrap (a + 1))) >>= fun v2 =>
 some ()
def q3u : ((Sl T.Sel) × Int × Int × Int × Int) → Option ((Int))
 | (data,n,blockSize,a,b) =>
  if (decide (b ≤ n)) then
   q5h data a b >>= fun v3 =>
   q3u (data,n,blockSize,b,(IntKind.i64.wrap (b + blockSize)))
  else
   some a
 partial_fixpoint
def q81 (data : (Sl T.Sel)) (n : Int) (blockSize : Int) (a : Int) (b : Int) : Option ((Unit)) :=
 if (decide (b ≤ n)) then
  none
 else
  some ()
def q3k : ((Sl T.Sel) × Int × Int) → Option ((Unit))
 | (data,n,blockSize) =>
  if (decide (blockSize < n)) then
   q81 data n blockSize 0 (IntKind.i64.wrap (2 * blockSize)) >>= fun v3 =>
   if (decide ((IntKind.i64.wrap (0 + blockSize)) < n)) then
    none
   else
    q3k (data,n,(IntKind.i64.wrap (blockSize * 2)))
  else
   some ()
 partial_fixpoint
def q6c (data : (Sl T.Sel)) (n : Int) : Option ((Unit)) :=
 q3u (data,n,20,0,20) >>= fun v2 =>
 q5h data v2 n >>= fun v4 =>
 q3k (data,n,20) >>= fun v6 =>
 some ()
def q4h (x : (Sl T.Sel)) : Option ((Unit)) :=
 q6c x (x.l.length : Int) >>= fun v2 =>
 some ()
def q5x (a : T.Span) (b : T.Span) : Option ((Bool)) :=
 some (decide ((if b.frm > a.frm then b.frm else a.frm) ≤ (if b.to < a.to then b.to else a.to)))
def mr : ((Sl T.Sel) × Int × Int × (List T.Sel)) → Option (((List T.Sel)))
 | (t14,t15,t16,out) =>
  if (decide (t16 < t15)) then
   qc t14.l t16 >>= fun x3 =>
   if (decide ((IntKind.i64.wrap ((out.length : Int) - 1)) < 0)) then
    if qx (out.length + 1) 16 = true then
     mr (t14,t15,(IntKind.i64.wrap (t16 + 1)),(out ++ [x3]))
    else none
   else
    qc out (IntKind.i64.wrap ((out.length : Int) - 1)) >>= fun x7 =>
    gm x7 >>= fun v9 =>
    gm x3 >>= fun v11 =>
    q5x v9 v11 >>= fun v13 =>
    if (!v13) then
     if qx (out.length + 1) 16 = true then
      mr (t14,t15,(IntKind.i64.wrap (t16 + 1)),(out ++ [x3]))
     else none
    else
    if (decide (x7.head < x7.anchor)) then
     mr (t14,t15,(IntKind.i64.wrap (t16 + 1)),(out.set ((IntKind.i64.wrap ((out.length : Int) - (1 : Int))).toNat) (T.Sel.mk (if v11.to > v9.to then v11.to else v9.to) v9.frm)))
    else
     mr (t14,t15,(IntKind.i64.wrap (t16 + 1)),(out.set ((IntKind.i64.wrap ((out.length : Int) - (1 : Int))).toNat) (T.Sel.mk v9.frm (if v11.to > v9.to then v11.to else v9.to))))
  else
   some out
 partial_fixpoint
def q1w : (Int × Int × Int × Int × (List T.Sel)) → Option (((List T.Sel)))
 | (a,b,i,j,data) =>
  if (decide (j > a)) then
   qc data j >>= fun x3 =>
   qc data (IntKind.i64.wrap (j - 1)) >>= fun x5 =>
   q3w x3 x5 >>= fun v7 =>
   if (decide (v7 < 0)) then
    qc (data.set j.toNat x5) (IntKind.i64.wrap (j - 1)) >>= fun x10 =>
    q1w (a,b,i,(IntKind.i64.wrap (j - 1)),((data.set j.toNat x5).set ((IntKind.i64.wrap (j - (1 : Int))).toNat) x3))
   else
    some data
  else
   some data
 partial_fixpoint
def q1e : (Int × Int × Int × (List T.Sel)) → Option (((List T.Sel)))
 | (a,b,i,data) =>
  if (decide (i < b)) then
   q1w (a,b,i,i,data) >>= fun v3 =>
   q1e (a,b,(IntKind.i64.wrap (i + 1)),v3)
  else
   some data
 partial_fixpoint
def q4c (a : Int) (b : Int) (r_ : (List T.Sel)) : Option (((List T.Sel))) :=
 q1e (a,b,(IntKind.i64.wrap (a + 1)),r_) >>= fun v2 =>
 some v2
def q36 : (Int × Int × Int × Int × (List T.Sel)) → Option ((Int × (List T.Sel)))
 | (n,blockSize,a,b,data) =>
  if (decide (b ≤ n)) then
   q4c a b data >>= fun v3 =>
   q36 (n,blockSize,b,(IntKind.i64.wrap (b + blockSize)),v3)
  else
   some (a,data)
 partial_fixpoint
def q7q (n : Int) (blockSize : Int) (a : Int) (b : Int) (data : (List T.Sel)) : Option ((Unit)) :=
 if (decide (b ≤ n)) then
  none
 else
  some ()
def q34 : (Int × Int × (List T.Sel)) → Option ((Unit))
 | (n,blockSize,data) =>
  if (decide (blockSize < n)) then
   q7q n blockSize 0 (IntKind.i64.wrap (2 * blockSize)) data >>= fun v3 =>
   if (decide ((IntKind.i64.wrap (0 + blockSize)) < n)) then
    none
   else
    q34 (n,(IntKind.i64.wrap (blockSize * 2)),data)
  else
   some ()
 partial_fixpoint
def q5s (n : Int) (r_ : (List T.Sel)) : Option (((List T.Sel))) :=
 q36 (n,20,0,20,r_) >>= fun v2 =>
 q4c v2.1 n v2.2 >>= fun v4 =>
 q34 (n,20,v4) >>= fun v6 =>
 some v4
def q4m (r_ : (List T.Sel)) : Option (((List T.Sel))) :=
 q5s (r_.length : Int) r_ >>= fun v2 =>
 some v2
def gy : (Int × Int × (List T.Sel) × (List T.Sel)) → Option (((List T.Sel)))
 | (t15,t16,t14,out) =>
  if (decide (t16 < t15)) then
   qc t14 t16 >>= fun x3 =>
   if (decide ((IntKind.i64.wrap ((out.length : Int) - 1)) < 0)) then
    if qx (out.length + 1) 16 = true then
     gy (t15,(IntKind.i64.wrap (t16 + 1)),t14,(out ++ [x3]))
    else none
   else
    qc out (IntKind.i64.wrap ((out.length : Int) - 1)) >>= fun x7 =>
    gm x7 >>= fun v9 =>
    gm x3 >>= fun v11 =>
    q5x v9 v11 >>= fun v13 =>
    if (!v13) then
     if qx (out.length + 1) 16 = true then
      gy (t15,(IntKind.i64.wrap (t16 + 1)),t14,(out ++ [x3]))
     else none
    else
    if (decide (x7.head < x7.anchor)) then
     gy (t15,(IntKind.i64.wrap (t16 + 1)),t14,(out.set ((IntKind.i64.wrap ((out.length : Int) - (1 : Int))).toNat) (T.Sel.mk (if v11.to > v9.to then v11.to else v9.to) v9.frm)))
    else
     gy (t15,(IntKind.i64.wrap (t16 + 1)),t14,(out.set ((IntKind.i64.wrap ((out.length : Int) - (1 : Int))).toNat) (T.Sel.mk v9.frm (if v11.to > v9.to then v11.to else v9.to))))
  else
   some out
 partial_fixpoint
def q3j (l : (Sl T.Sel)) : Option (((Sl T.Sel))) :=
 ni l >>= fun v2 =>
 match v2 with
 | .inl y3 =>
  q4h y3 >>= fun v5 =>
  mr (y3,(y3.l.length : Int),0,([] : List T.Sel)) >>= fun v7 =>
  some (⟨v7.isEmpty,v7⟩ : Sl T.Sel)
 | .inr y8 =>
  q4m y8 >>= fun v10 =>
  gy ((v10.length : Int),0,v10,([] : List T.Sel)) >>= fun v12 =>
  some (⟨v12.isEmpty,v12⟩ : Sl T.Sel)
def q1h (n : Int) (l : (Sl T.Sel)) : Option (((Sl T.Sel) × Int)) :=
 if ((l.l.length : Int) == 0) then
  some ((⟨true,([] : List T.Sel)⟩ : Sl T.Sel),2)
 else
 if (decide ((l.l.length : Int) > 64)) then
  some ((⟨true,([] : List T.Sel)⟩ : Sl T.Sel),7)
 else
  q27 (n,l,l,(l.l.length : Int),0) >>= fun v4 =>
  match v4 with
  | .inl y5 =>
   some (y5.1,y5.2)
  | .inr y6 =>
   q3j l >>= fun v8 =>
   some (v8,0)
def q15 : ((Sl T.Sel) × (Sl T.Sel) × Int × Int) → Option (((Bool) ⊕ (Unit)))
 | (s1,s2,t12,t13) =>
  if (decide (t13 < t12)) then
   qc s1.l t13 >>= fun x3 =>
   qc s2.l t13 >>= fun x5 =>
   if (!(x3.anchor == x5.anchor && (x3.head == x5.head))) then
    some (.inl false)
   else
    q15 (s1,s2,t12,(IntKind.i64.wrap (t13 + 1)))
  else
   some (.inr ())
 partial_fixpoint
def q13 (s1 : (Sl T.Sel)) (s2 : (Sl T.Sel)) : Option ((Bool)) :=
 if ((s1.l.length : Int) != (s2.l.length : Int)) then
  some false
 else
  q15 (s1,s2,(s1.l.length : Int),0) >>= fun v3 =>
  match v3 with
  | .inl y4 =>
   some y4
  | .inr y5 =>
   some true
def q7h (n : Int) (around : (Sl T.Span)) (k : Int) (end_ : Int) (t42 : (Sl T.qg)) (t43 : Int) (t44 : Int) (t54 : (Sl T.qz)) (t55 : Int) (t56 : Int) (b0_ : Bytes) (b0_2 : (Sl T.Sel)) (s : T.qg) : Option ((Unit)) :=
 if (decide (t56 < t55)) then
  qc t54.l t56 >>= fun x3 =>
  none
 else
  some ()
def q4r (n : Int) (around : (Sl T.Span)) (t42 : (Sl T.qg)) (t43 : Int) (t44 : Int) (b0_ : Bytes) (b0_2 : (Sl T.Sel)) : Option (((Bool) ⊕ (Unit))) :=
 if (decide (t44 < t43)) then
  qc t42.l t44 >>= fun x3 =>
  if ((x3.insts.l.length : Int) == 0) then
   some (.inl false)
  else
   q7h n around t44 0 t42 t43 t44 x3.insts (x3.insts.l.length : Int) 0 b0_ b0_2 x3 >>= fun v6 =>
   none
 else
  some (.inr ())
def q56 (st : Bytes) (st2 : (Sl T.Sel)) : Option ((Bool)) :=
 q1h (st.length : Int) st2 >>= fun v2 =>
 if ((decide ((st.length : Int) > 65536)) || (v2.2 != 0)) then
  some false
 else
  q13 v2.1 st2 >>= fun v6 =>
  if (!v6) then
   some false
  else
   q4r (st.length : Int) (⟨true,([] : List T.Span)⟩ : Sl T.Span) (⟨true,([] : List T.qg)⟩ : Sl T.qg) 0 0 st st2 >>= fun v9 =>
   match v9 with
   | .inl y10 =>
    some y10
   | .inr y11 =>
    some true
def q18 : (Int × (Sl T.q9) × (Sl T.q9) × Int × Int) → Option (((Int) ⊕ (Unit)))
 | (n,es,t7,t8,t9) =>
  if (decide (t9 < t8)) then
   qc t7.l t9 >>= fun x3 =>
   q1b x3.span n >>= fun v5 =>
   if (!v5) then
    some (.inl 3)
   else
    q18 (n,es,t7,t8,(IntKind.i64.wrap (t9 + 1)))
  else
   some (.inr ())
 partial_fixpoint
def q0o : ((Sl T.q9) × Int × Int × (List T.Span)) → Option (((List T.Span)))
 | (t6,t7,t8,out) =>
  if (decide (t8 < t7)) then
   qc t6.l t8 >>= fun x3 =>
   if qx (out.length + 1) 16 = true then
    q0o (t6,t7,(IntKind.i64.wrap (t8 + 1)),(out ++ [x3.span]))
   else none
  else
   some out
 partial_fixpoint
def q48 (es : (Sl T.q9)) : Option (((Sl T.Span))) :=
 q0o (es,(es.l.length : Int),0,([] : List T.Span)) >>= fun v2 =>
 some (⟨v2.isEmpty,v2⟩ : Sl T.Span)
def q5y (s : (Sl T.Span)) : Option ((((Sl T.Span)) ⊕ ((List T.Span)))) :=
 if s.nil then
  some (.inl (⟨true,([] : List T.Span)⟩ : Sl T.Span))
 else
  if qx (s.l.length) 16 = true then
   some (.inr s.l)
  else none
def q3i (a : T.Span) (b : T.Span) : Option ((Int)) :=
 cmp_Compare_int a.frm b.frm >>= fun v2 =>
 cmp_Compare_int a.to b.to >>= fun v4 =>
 q06 [v2,v4] >>= fun v6 =>
 some v6
def q9c (data : (Sl T.Span)) (a : Int) (b : Int) (i : Int) (j : Int) : Option ((Unit)) :=
 if (decide (j > a)) then
  qc data.l j >>= fun x3 =>
  qc data.l (IntKind.i64.wrap (j - 1)) >>= fun x5 =>
  q3i x3 x5 >>= fun v7 =>
  if (decide (v7 < 0)) then
   none
  else
   some ()
 else
  some ()
def q2c : ((Sl T.Span) × Int × Int × Int) → Option ((Unit))
 | (data,a,b,i) =>
  if (decide (i < b)) then
   q9c data a b i i >>= fun v3 =>
   q2c (data,a,b,(IntKind.i64.wrap (i + 1)))
  else
   some ()
 partial_fixpoint
def q44 (data : (Sl T.Span)) (a : Int) (b : Int) : Option ((Unit)) :=
 q2c (data,a,b,(IntKind.i64.wrap (a + 1))) >>= fun v2 =>
 some ()
def q2m : ((Sl T.Span) × Int × Int × Int × Int) → Option ((Int))
 | (data,n,blockSize,a,b) =>
  if (decide (b ≤ n)) then
   q44 data a b >>= fun v3 =>
   q2m (data,n,blockSize,b,(IntKind.i64.wrap (b + blockSize)))
  else
   some a
 partial_fixpoint
def q92 (data : (Sl T.Span)) (n : Int) (blockSize : Int) (a : Int) (b : Int) : Option ((Unit)) :=
 if (decide (b ≤ n)) then
  none
 else
  some ()
def q40 : ((Sl T.Span) × Int × Int) → Option ((Unit))
 | (data,n,blockSize) =>
  if (decide (blockSize < n)) then
   q92 data n blockSize 0 (IntKind.i64.wrap (2 * blockSize)) >>= fun v3 =>
   if (decide ((IntKind.i64.wrap (0 + blockSize)) < n)) then
    none
   else
    q40 (data,n,(IntKind.i64.wrap (blockSize * 2)))
  else
   some ()
 partial_fixpoint
def q6f (data : (Sl T.Span)) (n : Int) : Option ((Unit)) :=
 q2m (data,n,20,0,20) >>= fun v2 =>
 q44 data v2 n >>= fun v4 =>
 q40 (data,n,20) >>= fun v6 =>
 some ()
def q4k (x : (Sl T.Span)) : Option ((Unit)) :=
 q6f x (x.l.length : Int) >>= fun v2 =>
 some ()
def q12 : ((Sl T.Span) × (Sl T.Span) × Int × Int) → Option (((Bool) ⊕ (Unit)))
 | (in_,t10,t11,t12) =>
  if (decide (t12 < t11)) then
   qc t10.l t12 >>= fun x3 =>
   if (decide (x3.frm > x3.to)) then
    some (.inl false)
   else
   if (decide (t12 > 0)) then
    qc in_.l (IntKind.i64.wrap (t12 - 1)) >>= fun x7 =>
    if (x3.frm == x7.frm) then
     some (.inl false)
    else
    if (decide (x3.frm < x7.to)) then
     some (.inl false)
    else
     q12 (in_,t10,t11,(IntKind.i64.wrap (t12 + 1)))
   else
    q12 (in_,t10,t11,(IntKind.i64.wrap (t12 + 1)))
  else
   some (.inr ())
 partial_fixpoint
def q21 : (Int × Int × Int × Int × (List T.Span)) → Option (((List T.Span)))
 | (a,b,i,j,data) =>
  if (decide (j > a)) then
   qc data j >>= fun x3 =>
   qc data (IntKind.i64.wrap (j - 1)) >>= fun x5 =>
   q3i x3 x5 >>= fun v7 =>
   if (decide (v7 < 0)) then
    qc (data.set j.toNat x5) (IntKind.i64.wrap (j - 1)) >>= fun x10 =>
    q21 (a,b,i,(IntKind.i64.wrap (j - 1)),((data.set j.toNat x5).set ((IntKind.i64.wrap (j - (1 : Int))).toNat) x3))
   else
    some data
  else
   some data
 partial_fixpoint
def q28 : (Int × Int × Int × (List T.Span)) → Option (((List T.Span)))
 | (a,b,i,data) =>
  if (decide (i < b)) then
   q21 (a,b,i,i,data) >>= fun v3 =>
   q28 (a,b,(IntKind.i64.wrap (i + 1)),v3)
  else
   some data
 partial_fixpoint
def q5a (a : Int) (b : Int) (r_ : (List T.Span)) : Option (((List T.Span))) :=
 q28 (a,b,(IntKind.i64.wrap (a + 1)),r_) >>= fun v2 =>
 some v2
def q39 : (Int × Int × Int × Int × (List T.Span)) → Option ((Int × (List T.Span)))
 | (n,blockSize,a,b,data) =>
  if (decide (b ≤ n)) then
   q5a a b data >>= fun v3 =>
   q39 (n,blockSize,b,(IntKind.i64.wrap (b + blockSize)),v3)
  else
   some (a,data)
 partial_fixpoint
def q9e (n : Int) (blockSize : Int) (a : Int) (b : Int) (data : (List T.Span)) : Option ((Unit)) :=
 if (decide (b ≤ n)) then
  none
 else
  some ()
def q38 : (Int × Int × (List T.Span)) → Option ((Unit))
 | (n,blockSize,data) =>
  if (decide (blockSize < n)) then
   q9e n blockSize 0 (IntKind.i64.wrap (2 * blockSize)) data >>= fun v3 =>
   if (decide ((IntKind.i64.wrap (0 + blockSize)) < n)) then
    none
   else
    q38 (n,(IntKind.i64.wrap (blockSize * 2)),data)
  else
   some ()
 partial_fixpoint
def q6s (n : Int) (r_ : (List T.Span)) : Option (((List T.Span))) :=
 q39 (n,20,0,20,r_) >>= fun v2 =>
 q5a v2.1 n v2.2 >>= fun v4 =>
 q38 (n,20,v4) >>= fun v6 =>
 some v4
def q54 (r_ : (List T.Span)) : Option (((List T.Span))) :=
 q6s (r_.length : Int) r_ >>= fun v2 =>
 some v2
def q07 : (Int × Int × (List T.Span)) → Option (((Bool) ⊕ (Unit)))
 | (t11,t12,in_) =>
  if (decide (t12 < t11)) then
   qc in_ t12 >>= fun x3 =>
   if (decide (x3.frm > x3.to)) then
    some (.inl false)
   else
   if (decide (t12 > 0)) then
    qc in_ (IntKind.i64.wrap (t12 - 1)) >>= fun x7 =>
    if (x3.frm == x7.frm) then
     some (.inl false)
    else
    if (decide (x3.frm < x7.to)) then
     some (.inl false)
    else
     q07 (t11,(IntKind.i64.wrap (t12 + 1)),in_)
   else
    q07 (t11,(IntKind.i64.wrap (t12 + 1)),in_)
  else
   some (.inr ())
 partial_fixpoint
def q4l (l : (Sl T.Span)) : Option ((Bool)) :=
 q5y l >>= fun v2 =>
 match v2 with
 | .inl y3 =>
  q4k y3 >>= fun v5 =>
  q12 (y3,y3,(y3.l.length : Int),0) >>= fun v7 =>
  match v7 with
  | .inl y8 =>
   some y8
  | .inr y9 =>
   some true
 | .inr y10 =>
  q54 y10 >>= fun v12 =>
  q07 ((v12.length : Int),0,v12) >>= fun v14 =>
  match v14 with
  | .inl y15 =>
   some y15
  | .inr y16 =>
   some true
def q4f (s : T.Span) : Option ((Int)) :=
 some (IntKind.i64.wrap (s.to - s.frm))
def q1u : (Int × (Sl T.q9) × Int × Int) → Option ((Int))
 | (n,t7,t8,t9) =>
  if (decide (t9 < t8)) then
   qc t7.l t9 >>= fun x3 =>
   q4f x3.span >>= fun v5 =>
   q1u ((IntKind.i64.wrap (n + (IntKind.i64.wrap ((x3.text.length : Int) - v5)))),t7,t8,(IntKind.i64.wrap (t9 + 1)))
  else
   some n
 partial_fixpoint
def q47 (n : Int) (es : (Sl T.q9)) : Option ((Int)) :=
 q1u (n,es,(es.l.length : Int),0) >>= fun v2 =>
 some v2
def q0t (n : Int) (es : (Sl T.q9)) : Option ((Int)) :=
 q18 (n,es,es,(es.l.length : Int),0) >>= fun v2 =>
 match v2 with
 | .inl y3 =>
  some y3
 | .inr y4 =>
  q48 es >>= fun v6 =>
  q4l v6 >>= fun v8 =>
  if (!v8) then
   some 5
  else
   q47 n es >>= fun v11 =>
   if (decide (v11 > 65536)) then
    some 4
   else
    some 0
def q6y (t14 : (Sl T.qg)) (t15 : Int) (t16 : Int) (b0_ : Bytes) (b0_2 : (Sl T.Sel)) (w : Bytes) (w2 : (Sl T.Sel)) (r2_ : (List T.qb)) : Option ((Unit)) :=
 if (decide (t16 < t15)) then
  qc t14.l t16 >>= fun x3 =>
  none
 else
  some ()
def q6u (t14 : (Sl T.qg)) (t15 : Int) (t16 : Int) (b0_ : Bytes) (b0_2 : (Sl T.Sel)) (r1_ : (List T.Sel)) (w : Bytes) (r3_ : (List T.qb)) : Option ((Unit)) :=
 if (decide (t16 < t15)) then
  qc t14.l t16 >>= fun x3 =>
  none
 else
  some ()
def q4j (st : Bytes) (st2 : (Sl T.Sel)) : Option ((((Sl T.Sel) × (List T.qb)) ⊕ ((List T.Sel) × (List T.qb)))) :=
 ni st2 >>= fun v2 =>
 match v2 with
 | .inl y3 =>
  q6y (⟨true,([] : List T.qg)⟩ : Sl T.qg) 0 0 st st2 st y3 ([] : List T.qb) >>= fun v5 =>
  some (.inl (y3,([] : List T.qb)))
 | .inr y6 =>
  q6u (⟨true,([] : List T.qg)⟩ : Sl T.qg) 0 0 st st2 y6 st ([] : List T.qb) >>= fun v8 =>
  some (.inr (y6,([] : List T.qb)))
def q5t (es : (Sl T.q9)) (w : Bytes) (w2 : (Sl T.Sel)) (r1_ : (List T.qb)) : Option ((Unit)) :=
 if (decide ((r1_.length : Int) > 0)) then
  qc r1_ (IntKind.i64.wrap ((r1_.length : Int) - 1)) >>= fun x3 =>
  none
 else
  some ()
def q46 (es : (Sl T.q9)) (b : Bytes) (b_2 : (Sl T.Sel)) (r_ : (List T.qb)) : Option ((Unit)) :=
 q5t es b b_2 r_ >>= fun v2 =>
 some ()
def q6g (s : (Sl T.q9)) : Option ((((Sl T.q9)) ⊕ ((List T.q9)))) :=
 if s.nil then
  some (.inl (⟨true,([] : List T.q9)⟩ : Sl T.q9))
 else
  if qx (s.l.length) 32 = true then
   some (.inr s.l)
  else none
def q2u (a : T.q9) (b : T.q9) : Option ((Int)) :=
 cmp_Compare_int a.span.frm b.span.frm >>= fun v2 =>
 cmp_Compare_int a.span.to b.span.to >>= fun v4 =>
 q06 [v2,v4] >>= fun v6 =>
 some v6
def qa1 (data : (Sl T.q9)) (a : Int) (b : Int) (i : Int) (j : Int) : Option ((Unit)) :=
 if (decide (j > a)) then
  qc data.l j >>= fun x3 =>
  qc data.l (IntKind.i64.wrap (j - 1)) >>= fun x5 =>
  q2u x3 x5 >>= fun v7 =>
  if (decide (v7 < 0)) then
   none
  else
   some ()
 else
  some ()
def q2q : ((Sl T.q9) × Int × Int × Int) → Option ((Unit))
 | (data,a,b,i) =>
  if (decide (i < b)) then
   qa1 data a b i i >>= fun v3 =>
   q2q (data,a,b,(IntKind.i64.wrap (i + 1)))
  else
   some ()
 partial_fixpoint
def q49 (data : (Sl T.q9)) (a : Int) (b : Int) : Option ((Unit)) :=
 q2q (data,a,b,(IntKind.i64.wrap (a + 1))) >>= fun v2 =>
 some ()
def q3d : ((Sl T.q9) × Int × Int × Int × Int) → Option ((Int))
 | (data,n,blockSize,a,b) =>
  if (decide (b ≤ n)) then
   q49 data a b >>= fun v3 =>
   q3d (data,n,blockSize,b,(IntKind.i64.wrap (b + blockSize)))
  else
   some a
 partial_fixpoint
def q7t (data : (Sl T.q9)) (n : Int) (blockSize : Int) (a : Int) (b : Int) : Option ((Unit)) :=
 if (decide (b ≤ n)) then
  none
 else
  some ()
def q3l : ((Sl T.q9) × Int × Int) → Option ((Unit))
 | (data,n,blockSize) =>
  if (decide (blockSize < n)) then
   q7t data n blockSize 0 (IntKind.i64.wrap (2 * blockSize)) >>= fun v3 =>
   if (decide ((IntKind.i64.wrap (0 + blockSize)) < n)) then
    none
   else
    q3l (data,n,(IntKind.i64.wrap (blockSize * 2)))
  else
   some ()
 partial_fixpoint
def q5r (data : (Sl T.q9)) (n : Int) : Option ((Unit)) :=
 q3d (data,n,20,0,20) >>= fun v2 =>
 q49 data v2 n >>= fun v4 =>
 q3l (data,n,20) >>= fun v6 =>
 some ()
def q59 (x : (Sl T.q9)) : Option ((Unit)) :=
 q5r x (x.l.length : Int) >>= fun v2 =>
 some ()
def q0y : (Int × Int × Int × Int × (List T.q9)) → Option (((List T.q9)))
 | (a,b,i,j,data) =>
  if (decide (j > a)) then
   qc data j >>= fun x3 =>
   qc data (IntKind.i64.wrap (j - 1)) >>= fun x5 =>
   q2u x3 x5 >>= fun v7 =>
   if (decide (v7 < 0)) then
    qc (data.set j.toNat x5) (IntKind.i64.wrap (j - 1)) >>= fun x10 =>
    q0y (a,b,i,(IntKind.i64.wrap (j - 1)),((data.set j.toNat x5).set ((IntKind.i64.wrap (j - (1 : Int))).toNat) x3))
   else
    some data
  else
   some data
 partial_fixpoint
def q1j : (Int × Int × Int × (List T.q9)) → Option (((List T.q9)))
 | (a,b,i,data) =>
  if (decide (i < b)) then
   q0y (a,b,i,i,data) >>= fun v3 =>
   q1j (a,b,(IntKind.i64.wrap (i + 1)),v3)
  else
   some data
 partial_fixpoint
def q5f (a : Int) (b : Int) (r_ : (List T.q9)) : Option (((List T.q9))) :=
 q1j (a,b,(IntKind.i64.wrap (a + 1)),r_) >>= fun v2 =>
 some v2
def q3f : (Int × Int × Int × Int × (List T.q9)) → Option ((Int × (List T.q9)))
 | (n,blockSize,a,b,data) =>
  if (decide (b ≤ n)) then
   q5f a b data >>= fun v3 =>
   q3f (n,blockSize,b,(IntKind.i64.wrap (b + blockSize)),v3)
  else
   some (a,data)
 partial_fixpoint
def q96 (n : Int) (blockSize : Int) (a : Int) (b : Int) (data : (List T.q9)) : Option ((Unit)) :=
 if (decide (b ≤ n)) then
  none
 else
  some ()
def q2o : (Int × Int × (List T.q9)) → Option ((Unit))
 | (n,blockSize,data) =>
  if (decide (blockSize < n)) then
   q96 n blockSize 0 (IntKind.i64.wrap (2 * blockSize)) data >>= fun v3 =>
   if (decide ((IntKind.i64.wrap (0 + blockSize)) < n)) then
    none
   else
    q2o (n,(IntKind.i64.wrap (blockSize * 2)),data)
  else
   some ()
 partial_fixpoint
def q75 (n : Int) (r_ : (List T.q9)) : Option (((List T.q9))) :=
 q3f (n,20,0,20,r_) >>= fun v2 =>
 q5f v2.1 n v2.2 >>= fun v4 =>
 q2o (n,20,v4) >>= fun v6 =>
 some v4
def q4q (r_ : (List T.q9)) : Option (((List T.q9))) :=
 q75 (r_.length : Int) r_ >>= fun v2 =>
 some v2
def q1c (es : (Sl T.q9)) : Option ((((Sl T.q9)) ⊕ ((List T.q9)))) :=
 q6g es >>= fun v2 =>
 match v2 with
 | .inl y3 =>
  q59 y3 >>= fun v5 =>
  some (.inl y3)
 | .inr y6 =>
  q4q y6 >>= fun v8 =>
  some (.inr v8)
def q7d (s : (Sl T.q9)) (i : Int) (j : Int) : Option ((Unit)) :=
 if (decide (i < j)) then
  qc s.l j >>= fun x3 =>
  qc s.l i >>= fun x5 =>
  none
 else
  some ()
def q1a (s : (Sl T.q9)) : Option ((Unit)) :=
 q7d s 0 (IntKind.i64.wrap ((s.l.length : Int) - 1)) >>= fun v2 =>
 some ()
def q6p (x : Int) (y : Int) : Option ((Int × Int)) :=
 some ((IntKind.u64.wrap ((IntKind.u64.wrap ((IntKind.u64.wrap ((x.fdiv (2 ^ (min ((32 : Int)).toNat IntKind.u64.bits))) * (y.fdiv (2 ^ (min ((32 : Int)).toNat IntKind.u64.bits))))) + ((IntKind.u64.wrap ((IntKind.u64.wrap ((x.fdiv (2 ^ (min ((32 : Int)).toNat IntKind.u64.bits))) * (IntKind.u64.wrap (BitVec.ofInt IntKind.u64.bits y &&& BitVec.ofInt IntKind.u64.bits (4294967295 : Int)).toNat))) + ((IntKind.u64.wrap ((IntKind.u64.wrap (BitVec.ofInt IntKind.u64.bits x &&& BitVec.ofInt IntKind.u64.bits (4294967295 : Int)).toNat) * (IntKind.u64.wrap (BitVec.ofInt IntKind.u64.bits y &&& BitVec.ofInt IntKind.u64.bits (4294967295 : Int)).toNat))).fdiv (2 ^ (min ((32 : Int)).toNat IntKind.u64.bits))))).fdiv (2 ^ (min ((32 : Int)).toNat IntKind.u64.bits))))) + ((IntKind.u64.wrap ((IntKind.u64.wrap (BitVec.ofInt IntKind.u64.bits (IntKind.u64.wrap ((IntKind.u64.wrap ((x.fdiv (2 ^ (min ((32 : Int)).toNat IntKind.u64.bits))) * (IntKind.u64.wrap (BitVec.ofInt IntKind.u64.bits y &&& BitVec.ofInt IntKind.u64.bits (4294967295 : Int)).toNat))) + ((IntKind.u64.wrap ((IntKind.u64.wrap (BitVec.ofInt IntKind.u64.bits x &&& BitVec.ofInt IntKind.u64.bits (4294967295 : Int)).toNat) * (IntKind.u64.wrap (BitVec.ofInt IntKind.u64.bits y &&& BitVec.ofInt IntKind.u64.bits (4294967295 : Int)).toNat))).fdiv (2 ^ (min ((32 : Int)).toNat IntKind.u64.bits))))) &&& BitVec.ofInt IntKind.u64.bits (4294967295 : Int)).toNat) + (IntKind.u64.wrap ((IntKind.u64.wrap (BitVec.ofInt IntKind.u64.bits x &&& BitVec.ofInt IntKind.u64.bits (4294967295 : Int)).toNat) * (y.fdiv (2 ^ (min ((32 : Int)).toNat IntKind.u64.bits))))))).fdiv (2 ^ (min ((32 : Int)).toNat IntKind.u64.bits))))),(IntKind.u64.wrap (x * y)))
def q5v (x : Int) (y : Int) : Option ((Int × Int)) :=
 q6p x y >>= fun v2 =>
 some (v2.1,v2.2)
def q80 (n : Int) (newslice : (List (Int × Int))) : Option ((Unit)) :=
 if (decide (n < (newslice.length : Int))) then
  none
 else
  some ()
def q51 (x : (Sl (Int × Int))) (count : Int) : Option (((List (Int × Int)))) :=
 if (decide (count < (0 : Int))) then
  none
 else
  q5v (IntKind.u64.wrap (x.l.length : Int)) (IntKind.u64.wrap count) >>= fun v3 =>
  if ((decide (v3.1 > (0 : Int))) || (decide (v3.2 > (9223372036854775807 : Int)))) then
   none
  else
   if 0 ≤ (IntKind.i64.wrap v3.2) then
    if qx (IntKind.i64.wrap v3.2).toNat 16 = true then
     q80 ((x.l.take (List.replicate (IntKind.i64.wrap v3.2).toNat ((0 : Int),(0 : Int))).length).length : Int) (x.l.take (List.replicate (IntKind.i64.wrap v3.2).toNat ((0 : Int),(0 : Int))).length ++ (List.replicate (IntKind.i64.wrap v3.2).toNat ((0 : Int),(0 : Int))).drop (x.l.take (List.replicate (IntKind.i64.wrap v3.2).toNat ((0 : Int),(0 : Int))).length).length) >>= fun v9 =>
     some (x.l.take (List.replicate (IntKind.i64.wrap v3.2).toNat ((0 : Int),(0 : Int))).length ++ (List.replicate (IntKind.i64.wrap v3.2).toNat ((0 : Int),(0 : Int))).drop (x.l.take (List.replicate (IntKind.i64.wrap v3.2).toNat ((0 : Int),(0 : Int))).length).length)
    else none
   else none
def q7s (depth : Int) (typed : Bool) (k : Int) (w : Bytes) (w2 : (Sl T.Sel)) (r1_ : (List T.qb)) (e : T.q9) (owners : (List (Int × Int))) (at_ : T.Span) : Option ((Unit)) :=
 if (decide (k ≥ 0)) then
  qc r1_ k >>= fun x3 =>
  none
 else
  some ()
def q99 (depth : Int) (typed : Bool) (t92 : Int) (t93 : Int) (w : Bytes) (w2 : (Sl T.Sel)) (t91 : (List T.qb)) (e : T.q9) (owners : (List (Int × Int))) (b5_ : T.Span) : Option ((Unit)) :=
 if (decide (t93 < t92)) then
  qc t91 t93 >>= fun x3 =>
  qc owners t93 >>= fun x5 =>
  if typed then
   none
  else
   none
 else
  some ()
def bq : (Int × Bool × (Sl T.q9) × Int × Int) → Option ((Int))
 | (at_,right,t14,t15,t16) =>
  if (decide (t16 < t15)) then
   qc t14.l t16 >>= fun x3 =>
   if (decide (at_ < x3.span.frm)) then
    bq (at_,right,t14,t15,(IntKind.i64.wrap (t16 + 1)))
   else
   if (decide (at_ > x3.span.to)) then
    q4f x3.span >>= fun v7 =>
    bq ((IntKind.i64.wrap (at_ + (IntKind.i64.wrap ((x3.text.length : Int) - v7)))),right,t14,t15,(IntKind.i64.wrap (t16 + 1)))
   else
   if right then
    bq ((IntKind.i64.wrap (x3.span.frm + (x3.text.length : Int))),right,t14,t15,(IntKind.i64.wrap (t16 + 1)))
   else
    bq (x3.span.frm,right,t14,t15,(IntKind.i64.wrap (t16 + 1)))
  else
   some at_
 partial_fixpoint
def q1n : (Int × Int × (List T.q9)) → Option (((List T.q9)))
 | (i,j,s) =>
  if (decide (i < j)) then
   qc s j >>= fun x3 =>
   qc s i >>= fun x5 =>
   qc (s.set i.toNat x3) j >>= fun x7 =>
   q1n ((IntKind.i64.wrap (i + 1)),(IntKind.i64.wrap (j - 1)),((s.set i.toNat x3).set j.toNat x5))
  else
   some s
 partial_fixpoint
def q1d (r_ : (List T.q9)) : Option (((List T.q9))) :=
 q1n (0,(IntKind.i64.wrap ((r_.length : Int) - 1)),r_) >>= fun v2 =>
 some v2
def gu : (Int × Bool × Int × Int × (List T.q9)) → Option ((Int))
 | (at_,right,t15,t16,t14) =>
  if (decide (t16 < t15)) then
   qc t14 t16 >>= fun x3 =>
   if (decide (at_ < x3.span.frm)) then
    gu (at_,right,t15,(IntKind.i64.wrap (t16 + 1)),t14)
   else
   if (decide (at_ > x3.span.to)) then
    q4f x3.span >>= fun v7 =>
    gu ((IntKind.i64.wrap (at_ + (IntKind.i64.wrap ((x3.text.length : Int) - v7)))),right,t15,(IntKind.i64.wrap (t16 + 1)),t14)
   else
   if right then
    gu ((IntKind.i64.wrap (x3.span.frm + (x3.text.length : Int))),right,t15,(IntKind.i64.wrap (t16 + 1)),t14)
   else
    gu (x3.span.frm,right,t15,(IntKind.i64.wrap (t16 + 1)),t14)
  else
   some at_
 partial_fixpoint
def q2w (at_ : Int) (right : Bool) (es : (Sl T.q9)) : Option ((Int)) :=
 q1c es >>= fun v2 =>
 match v2 with
 | .inl y3 =>
  q1a y3 >>= fun v5 =>
  bq (at_,right,y3,(y3.l.length : Int),0) >>= fun v7 =>
  some v7
 | .inr y8 =>
  q1d y8 >>= fun v10 =>
  gu (at_,right,(v10.length : Int),0,v10) >>= fun v12 =>
  some v12
def q25 : ((Sl T.q9) × (Sl T.Sel) × Int × Int × (List T.Sel)) → Option (((List T.Sel)))
 | (es,t8,t9,t10,out) =>
  if (decide (t10 < t9)) then
   qc t8.l t10 >>= fun x3 =>
   q2w x3.anchor true es >>= fun v5 =>
   q2w x3.head true es >>= fun v7 =>
   if qx (out.length + 1) 16 = true then
    q25 (es,t8,t9,(IntKind.i64.wrap (t10 + 1)),(out ++ [(T.Sel.mk v5 v7)]))
   else none
  else
   some out
 partial_fixpoint
def q41 (l : (Sl T.Sel)) (r_ : (List T.q9)) : Option (((Sl T.Sel))) :=
 q25 ((⟨false,r_⟩ : Sl T.q9),l,(l.l.length : Int),0,([] : List T.Sel)) >>= fun v2 =>
 q3j (⟨v2.isEmpty,v2⟩ : Sl T.Sel) >>= fun v4 =>
 some v4
def q77 (depth : Int) (typed : Bool) (t92 : Int) (t93 : Int) (w : Bytes) (w2 : (Sl T.Sel)) (t91 : (List T.qb)) (e : T.q9) (owners : (List (Int × Int))) : Option ((Unit)) :=
 if (decide (t93 < t92)) then
  qc t91 t93 >>= fun x3 =>
  qc owners t93 >>= fun x5 =>
  if typed then
   none
  else
   none
 else
  some ()
def q0b (depth : Int) (inst : Int) (stop : Int) (e : T.q9) (typed : Bool) (b : Bytes) (b_2 : (Sl T.Sel)) (r_ : (List T.qb)) : Option ((Bytes × (Sl T.Sel))) :=
 q51 (⟨false,[((-1),(-1))]⟩ : Sl (Int × Int)) (r_.length : Int) >>= fun v2 =>
 if (decide (stop ≥ 0)) then
  qc v2 depth >>= fun x5 =>
  qc r_ depth >>= fun x7 =>
  qc x7.session.insts.l inst >>= fun x9 =>
  q7s depth typed (IntKind.i64.wrap (depth - 1)) b b_2 r_ e (v2.set depth.toNat (inst,stop)) x9.span >>= fun v11 =>
  q99 depth typed (r_.length : Int) 0 b b_2 r_ e (v2.set depth.toNat (inst,stop)) x9.span >>= fun v13 =>
  jg b e.span.frm >>= fun r15 =>
  if r15.length + e.text.length ≤ 2 ^ 62 then
   ji b e.span.to >>= fun r18 =>
   if (r15 ++ e.text).length + r18.length ≤ 2 ^ 62 then
    q41 b_2 [e] >>= fun v21 =>
    some (((r15 ++ e.text) ++ r18),v21)
   else none
  else none
 else
  q77 depth typed (r_.length : Int) 0 b b_2 r_ e v2 >>= fun v23 =>
  jg b e.span.frm >>= fun r25 =>
  if r25.length + e.text.length ≤ 2 ^ 62 then
   ji b e.span.to >>= fun r28 =>
   if (r25 ++ e.text).length + r28.length ≤ 2 ^ 62 then
    q41 b_2 [e] >>= fun v31 =>
    some (((r25 ++ e.text) ++ r28),v31)
   else none
  else none
def q3p : ((Sl T.q9) × Int × Int × Bytes × (Sl T.Sel) × (List T.qb)) → Option ((Bytes × (Sl T.Sel)))
 | (t14,t15,t16,w,w2,r1_) =>
  if (decide (t16 < t15)) then
   qc t14.l t16 >>= fun x3 =>
   if (decide ((IntKind.i64.wrap ((r1_.length : Int) - 1)) ≥ 0)) then
    qc r1_ (IntKind.i64.wrap ((r1_.length : Int) - 1)) >>= fun x6 =>
    none
   else
    q0b (IntKind.i64.wrap ((r1_.length : Int) - 1)) (-1) (-1) x3 true w w2 r1_ >>= fun v8 =>
    q3p (t14,t15,(IntKind.i64.wrap (t16 + 1)),v8.1,v8.2,r1_)
  else
   some (w,w2)
 partial_fixpoint
def q04 : (Int × Int × Bytes × (Sl T.Sel) × (List T.qb) × (List T.q9)) → Option ((Bytes × (Sl T.Sel)))
 | (t15,t16,w,w2,r1_,t14) =>
  if (decide (t16 < t15)) then
   qc t14 t16 >>= fun x3 =>
   if (decide ((IntKind.i64.wrap ((r1_.length : Int) - 1)) ≥ 0)) then
    qc r1_ (IntKind.i64.wrap ((r1_.length : Int) - 1)) >>= fun x6 =>
    none
   else
    q0b (IntKind.i64.wrap ((r1_.length : Int) - 1)) (-1) (-1) x3 true w w2 r1_ >>= fun v8 =>
    q04 (t15,(IntKind.i64.wrap (t16 + 1)),v8.1,v8.2,r1_,t14)
  else
   some (w,w2)
 partial_fixpoint
def q3r (es : (Sl T.q9)) (b : Bytes) (b_2 : (Sl T.Sel)) (r_ : (List T.qb)) : Option ((Bytes × (Sl T.Sel))) :=
 q1c es >>= fun v2 =>
 match v2 with
 | .inl y3 =>
  q1a y3 >>= fun v5 =>
  q3p (y3,(y3.l.length : Int),0,b,b_2,r_) >>= fun v7 =>
  some (v7.1,v7.2)
 | .inr y8 =>
  q1d y8 >>= fun v10 =>
  q04 ((v10.length : Int),0,b,b_2,r_,v10) >>= fun v12 =>
  some (v12.1,v12.2)
def q7e (d : Int) (i : Int) (w : Bytes) (w2 : (Sl T.Sel)) (r1_ : (List T.qb)) : Option ((Unit)) :=
 qc r1_ d >>= fun x2 =>
 if (decide (i < (x2.session.insts.l.length : Int))) then
  qc x2.session.insts.l i >>= fun x5 =>
  none
 else
  some ()
def q2p : (Int × Bytes × (Sl T.Sel) × (List T.qb)) → Option ((Unit))
 | (d,w,w2,r1_) =>
  if (decide (d ≥ 0)) then
   q7e d 0 w w2 r1_ >>= fun v3 =>
   q2p ((IntKind.i64.wrap (d - 1)),w,w2,r1_)
  else
   some ()
 partial_fixpoint
def tu (b : Bytes) (b_2 : (Sl T.Sel)) (r_ : (List T.qb)) : Option ((Int)) :=
 q2p ((IntKind.i64.wrap ((r_.length : Int) - 1)),b,b_2,r_) >>= fun v2 =>
 some 0
def q4t : ((Sl T.Span) × Int × Int × Int × (Sl T.qz) × Int × Int × Bytes × (Sl T.Sel) × (List T.qb) × Int × (List T.qz) × (List (Sl T.zo))) → Option (((List T.qz) × (List (Sl T.zo))))
 | (around,k,t11,t12,t34,t35,t36,w,w2,r1_,s,r3_,r4_) =>
  if (decide (t36 < t35)) then
   qc t34.l t36 >>= fun x3 =>
   if (k == 0) then
    if qx (r3_.length + 1) 40 = true then
     qc r1_ k >>= fun x7 =>
     qc x7.marks.l t36 >>= fun x9 =>
     if qx (r4_.length + 1) 24 = true then
      q4t (around,k,t11,t12,t34,t35,(IntKind.i64.wrap (t36 + 1)),w,w2,r1_,s,(r3_ ++ [x3]),(r4_ ++ [x9]))
     else none
    else none
   else
    none
  else
   some (r3_,r4_)
 partial_fixpoint
def q5w (around : (Sl T.Span)) (t11 : Int) (t12 : Int) (w : Bytes) (w2 : (Sl T.Sel)) (r1_ : (List T.qb)) : Option ((Unit)) :=
 if (decide (t12 < t11)) then
  qc r1_ t12 >>= fun x3 =>
  q4t (around,t12,t11,t12,x3.session.insts,(x3.session.insts.l.length : Int),0,w,w2,r1_,x3.session.cur,([] : List T.qz),([] : List (Sl T.zo))) >>= fun v5 =>
  none
 else
  some ()
def q0e (b : Bytes) (b_2 : (Sl T.Sel)) (r_ : (List T.qb)) : Option ((Unit)) :=
 q5w (⟨true,([] : List T.Span)⟩ : Sl T.Span) (r_.length : Int) 0 b b_2 r_ >>= fun v2 =>
 some ()
def q3g : (Int × Int × Bytes × (Sl T.Sel) × (List T.qb) × Bytes × (List T.qg)) → Option (((List T.qg)))
 | (t10,t11,w,w2,t9,t2,all_) =>
  if (decide (t11 < t10)) then
   qc t9 t11 >>= fun x3 =>
   if qx (all_.length + 1) 32 = true then
    q3g (t10,(IntKind.i64.wrap (t11 + 1)),w,w2,t9,t2,(all_ ++ [x3.session]))
   else none
  else
   some all_
 partial_fixpoint
def q6m (t8 : Int) (t9 : Int) (t7 : (List T.qg)) (st : Bytes) (st2 : (Sl T.Sel)) (t2 : Bytes) (all_ : (List T.qg)) : Option ((Unit)) :=
 if (decide (t9 < t8)) then
  qc t7 t9 >>= fun x3 =>
  none
 else
  some ()
def q4d (st : Bytes) (st2 : (Sl T.Sel)) (r_ : (List T.qg)) : Option ((T.State)) :=
 q6m (r_.length : Int) 0 r_ st st2 ([] : Bytes) ([] : List T.qg) >>= fun v2 =>
 ni st2 >>= fun v4 =>
 match v4 with
 | .inl y5 =>
  some (T.State.mk st y5 (⟨([] : List T.qg).isEmpty,([] : List T.qg)⟩ : (Sl T.qg)))
 | .inr y6 =>
  some (T.State.mk st (⟨false,y6⟩ : (Sl T.Sel)) (⟨([] : List T.qg).isEmpty,([] : List T.qg)⟩ : (Sl T.qg)))
def q0q (b : Bytes) (b_2 : (Sl T.Sel)) (r_ : (List T.qb)) : Option ((T.State)) :=
 q3g ((r_.length : Int),0,b,b_2,r_,([] : Bytes),([] : List T.qg)) >>= fun v2 =>
 q4d b b_2 v2 >>= fun v4 =>
 some v4
def q5k (es : (Sl T.q9)) (w : Bytes) (r1_ : (List T.Sel)) (r2_ : (List T.qb)) : Option ((Unit)) :=
 if (decide ((r2_.length : Int) > 0)) then
  qc r2_ (IntKind.i64.wrap ((r2_.length : Int) - 1)) >>= fun x3 =>
  none
 else
  some ()
def q4x (es : (Sl T.q9)) (b : Bytes) (r_ : (List T.Sel)) (r_2 : (List T.qb)) : Option ((Unit)) :=
 q5k es b r_ r_2 >>= fun v2 =>
 some ()
def q2d : ((Sl T.q9) × Int × Int × Bytes × (Sl T.Sel) × (List T.qb)) → Option ((Bytes × (Sl T.Sel)))
 | (t14,t15,t16,w,w2,r2_) =>
  if (decide (t16 < t15)) then
   qc t14.l t16 >>= fun x3 =>
   if (decide ((IntKind.i64.wrap ((r2_.length : Int) - 1)) ≥ 0)) then
    qc r2_ (IntKind.i64.wrap ((r2_.length : Int) - 1)) >>= fun x6 =>
    none
   else
    q0b (IntKind.i64.wrap ((r2_.length : Int) - 1)) (-1) (-1) x3 true w w2 r2_ >>= fun v8 =>
    q2d (t14,t15,(IntKind.i64.wrap (t16 + 1)),v8.1,v8.2,r2_)
  else
   some (w,w2)
 partial_fixpoint
def uz : (Int × Int × Bytes × (Sl T.Sel) × (List T.qb) × (List T.q9)) → Option ((Bytes × (Sl T.Sel)))
 | (t15,t16,w,w2,r2_,t14) =>
  if (decide (t16 < t15)) then
   qc t14 t16 >>= fun x3 =>
   if (decide ((IntKind.i64.wrap ((r2_.length : Int) - 1)) ≥ 0)) then
    qc r2_ (IntKind.i64.wrap ((r2_.length : Int) - 1)) >>= fun x6 =>
    none
   else
    q0b (IntKind.i64.wrap ((r2_.length : Int) - 1)) (-1) (-1) x3 true w w2 r2_ >>= fun v8 =>
    uz (t15,(IntKind.i64.wrap (t16 + 1)),v8.1,v8.2,r2_,t14)
  else
   some (w,w2)
 partial_fixpoint
def q3o (es : (Sl T.q9)) (b : Bytes) (r_ : (List T.Sel)) (r_2 : (List T.qb)) : Option ((Bytes × (Sl T.Sel))) :=
 q1c es >>= fun v2 =>
 match v2 with
 | .inl y3 =>
  q1a y3 >>= fun v5 =>
  q2d (y3,(y3.l.length : Int),0,b,(⟨false,r_⟩ : Sl T.Sel),r_2) >>= fun v7 =>
  some (v7.1,v7.2)
 | .inr y8 =>
  q1d y8 >>= fun v10 =>
  uz ((v10.length : Int),0,b,(⟨false,r_⟩ : Sl T.Sel),r_2,v10) >>= fun v12 =>
  some (v12.1,v12.2)
def ma (st : Bytes) (st2 : (Sl T.Sel)) (es : (Sl T.q9)) : Option ((T.State × Int)) :=
 q56 st st2 >>= fun v2 =>
 if (!v2) then
  some ((T.State.mk ([] : Bytes) (⟨true,([] : List T.Sel)⟩ : (Sl T.Sel)) (⟨true,([] : List T.qg)⟩ : (Sl T.qg))),2)
 else
  q0t (st.length : Int) es >>= fun v5 =>
  if (v5 != 0) then
   some ((T.State.mk ([] : Bytes) (⟨true,([] : List T.Sel)⟩ : (Sl T.Sel)) (⟨true,([] : List T.qg)⟩ : (Sl T.qg))),v5)
  else
   q4j st st2 >>= fun v8 =>
   match v8 with
   | .inl y9 =>
    q46 es st y9.1 y9.2 >>= fun v11 =>
    q3r es st y9.1 y9.2 >>= fun v13 =>
    tu v13.1 v13.2 y9.2 >>= fun v15 =>
    if (v15 != 0) then
     some ((T.State.mk ([] : Bytes) (⟨true,([] : List T.Sel)⟩ : (Sl T.Sel)) (⟨true,([] : List T.qg)⟩ : (Sl T.qg))),v15)
    else
     q0e v13.1 v13.2 y9.2 >>= fun v18 =>
     q0q v13.1 v13.2 y9.2 >>= fun v20 =>
     some (v20,0)
   | .inr y21 =>
    q4x es st y21.1 y21.2 >>= fun v23 =>
    q3o es st y21.1 y21.2 >>= fun v25 =>
    tu v25.1 v25.2 y21.2 >>= fun v27 =>
    if (v27 != 0) then
     some ((T.State.mk ([] : Bytes) (⟨true,([] : List T.Sel)⟩ : (Sl T.Sel)) (⟨true,([] : List T.qg)⟩ : (Sl T.qg))),v27)
    else
     q0e v25.1 v25.2 y21.2 >>= fun v30 =>
     q0q v25.1 v25.2 y21.2 >>= fun v32 =>
     some (v32,0)
def q63 (i : Int) (a : T.State) (b : Bytes) : Option ((Unit)) :=
 if (decide (i < (a.sels.l.length : Int))) then
  qc a.sels.l i >>= fun x3 =>
  none
 else
  some ()
def q6t (i : Int) (a : T.State) (b : Bytes) : Option ((Unit)) :=
 if (decide (i < (a.sessions.l.length : Int))) then
  qc a.sessions.l i >>= fun x3 =>
  none
 else
  some ()
def q1f (a : T.State) (b : Bytes) : Option ((Bool)) :=
 if ((!(a.text == b)) || (((a.sels.l.length : Int) != 0) || ((a.sessions.l.length : Int) != 0))) then
  some false
 else
  q63 0 a b >>= fun v5 =>
  q6t 0 a b >>= fun v7 =>
  some true
def q1l : ((Sl T.Sel) × (Sl T.Sel) × Int) → Option (((Bool) ⊕ (Unit)))
 | (a,b,i) =>
  if (decide (i < (a.l.length : Int))) then
   qc a.l i >>= fun x3 =>
   qc b.l i >>= fun x5 =>
   if (!(x3.anchor == x5.anchor && (x3.head == x5.head))) then
    some (.inl false)
   else
    q1l (a,b,(IntKind.i64.wrap (i + 1)))
  else
   some (.inr ())
 partial_fixpoint
def bz (a : (Sl T.Sel)) (b : (Sl T.Sel)) : Option ((Bool)) :=
 if ((a.l.length : Int) != (b.l.length : Int)) then
  some false
 else
  q1l (a,b,0) >>= fun v3 =>
  match v3 with
  | .inl y4 =>
   some y4
  | .inr y5 =>
   some true
def q6q (text : Bytes) (q : (Sl T.Sel)) (es : (Sl T.q9)) : Option ((Bool)) :=
 if ((decide ((text.length : Int) > 60)) || (decide ((q.l.length : Int) > 8))) then
  aw5 >>= fun v3 =>
  some v3
 else
  q43 4 60 es >>= fun v8 =>
  if v8 then
   aw5 >>= fun v11 =>
   some v11
  else
   ma text q es >>= fun v13 =>
   q0t (text.length : Int) es >>= fun v15 =>
   q1h (text.length : Int) q >>= fun v17 =>
   if (v17.2 != 0) then
    if (v13.2 == 2) then
     if (v13.2 == 0) then
      aw5 >>= fun v22 =>
      some v22
     else
      q1f v13.1 ([] : Bytes) >>= fun v24 =>
      if v24 then
       aw5 >>= fun v27 =>
       some v27
      else
       some false
    else
     some false
   else
    bz v17.1 q >>= fun v29 =>
    if (!v29) then
     if (v13.2 == 2) then
      if (v13.2 == 0) then
       aw5 >>= fun v34 =>
       some v34
      else
       q1f v13.1 ([] : Bytes) >>= fun v36 =>
       if v36 then
        aw5 >>= fun v39 =>
        some v39
       else
        some false
     else
      some false
    else
    if (v13.2 == v15) then
     if (v13.2 == 0) then
      aw5 >>= fun v43 =>
      some v43
     else
      q1f v13.1 ([] : Bytes) >>= fun v45 =>
      if v45 then
       aw5 >>= fun v48 =>
       some v48
      else
       some false
    else
     some false
end Go.Proofs.YtkbgphcebakcnaaGreat
