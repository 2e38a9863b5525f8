/-
  The functions as plain Lean functions.
-/
import Derived.Test.YtdhgdeelagmbpaaGreatQag
set_option linter.unusedSimpArgs false
set_option linter.unusedVariables false
set_option maxRecDepth 100000
namespace Go.Proofs.YtdhgdeelagmbpaaGreat
open Go Go.Gm
def q15 (c : UInt8) : Option ((Bool)) :=
 if (decide ((c.toNat : Int) ≥ 48)) then
  some (decide ((c.toNat : Int) ≤ 57))
 else
  some false
def q72 : (Bytes × Int × Int × Int) → Option ((Int × Int))
 | (s,at_,n,end_) =>
  if ((decide (end_ < (s.length : Int))) && (decide (end_ < (IntKind.i64.wrap (at_ + 4))))) then
   qd s end_ >>= fun b4 =>
   q15 b4 >>= fun v6 =>
   if v6 then
    q72 (s,at_,(IntKind.i64.wrap ((IntKind.i64.wrap (n * 10)) + (IntKind.i64.wrap (IntKind.u8.wrap ((b4.toNat : Int) - 48))))),(IntKind.i64.wrap (end_ + 1)))
   else
    some (n,end_)
  else
   some (n,end_)
 partial_fixpoint
def q6d (s : Bytes) (at_ : Int) : Option ((Int × Int × Bool)) :=
 q72 (s,at_,0,at_) >>= fun v2 =>
 if (v2.2 == at_) then
  some (0,0,false)
 else
 if (decide (v2.2 < (s.length : Int))) then
  qd s v2.2 >>= fun b6 =>
  q15 b6 >>= fun v8 =>
  if v8 then
   some (0,0,false)
  else
   some (v2.1,v2.2,true)
 else
  some (v2.1,v2.2,true)
def q4y (c : UInt8) : Option ((Bool)) :=
 if ((decide ((c.toNat : Int) ≥ 65)) && (decide ((c.toNat : Int) ≤ 90))) then
  some true
 else
 if (decide ((c.toNat : Int) ≥ 97)) then
  some (decide ((c.toNat : Int) ≤ 122))
 else
  some false
def q39 : (Int × Int × Bytes × (List T.qc) × (List Int)) → Option ((Int))
 | (at_,end_,r_,r1_,r2_) =>
  if (decide (end_ < (r_.length : Int))) then
   qd r_ end_ >>= fun b3 =>
   q4y b3 >>= fun v5 =>
   if v5 then
    q39 (at_,(IntKind.i64.wrap (end_ + 1)),r_,r1_,r2_)
   else
   if ((b3.toNat : Int) == 95) then
    q39 (at_,(IntKind.i64.wrap (end_ + 1)),r_,r1_,r2_)
   else
   if (decide (end_ > at_)) then
    q15 b3 >>= fun v10 =>
    if v10 then
     q39 (at_,(IntKind.i64.wrap (end_ + 1)),r_,r1_,r2_)
    else
     some end_
   else
    some end_
  else
   some end_
 partial_fixpoint
def q12 : (Bytes × Int) → Option (((Bool) ⊕ (Unit)))
 | (s,i) =>
  if (decide (i < (s.length : Int))) then
   qd s i >>= fun b3 =>
   q4y b3 >>= fun v5 =>
   if (!v5) then
    if ((b3.toNat : Int) != 95) then
     if (i == 0) then
      some (.inl false)
     else
      q15 b3 >>= fun v10 =>
      if (!v10) then
       some (.inl false)
      else
       q12 (s,(IntKind.i64.wrap (i + 1)))
    else
     q12 (s,(IntKind.i64.wrap (i + 1)))
   else
    q12 (s,(IntKind.i64.wrap (i + 1)))
  else
   some (.inr ())
 partial_fixpoint
def ng (s : Bytes) : Option ((Bool)) :=
 if (((s.length : Int) == 0) || (decide ((s.length : Int) > 64))) then
  some false
 else
  q12 (s,0) >>= fun v4 =>
  match v4 with
  | .inl y5 =>
   some y5
  | .inr y6 =>
   some true
def qb9 (at_ : Int) (b : Bytes) (r_ : (List T.qc)) (r_2 : (List Int)) : Option ((Bytes × Int × Bool)) :=
 q39 (at_,at_,b,r_,r_2) >>= fun v2 =>
 sub2 b at_ v2 >>= fun r4 =>
 ng r4 >>= fun v6 =>
 some (r4,v2,v6)
def q9e (at_ : Int) (b : Bytes) (r_ : (List T.qc)) (r_2 : (List Int)) : Option ((T.qc × Int × Bool)) :=
 q6d b at_ >>= fun v2 =>
 if v2.2.2 then
  some ((T.qc.mk 1 ([] : Bytes) v2.1 false false (T.Form.mk (T.Rx.mk 0 ([] : Bytes) false (⟨true,([] : List T.Row)⟩ : (Sl T.Row)) 0 0 false (⟨true,([] : List T.Rx)⟩ : (Sl T.Rx))) (⟨true,([] : List T.Fmt)⟩ : (Sl T.Fmt)) false false) (⟨true,([] : List Bytes)⟩ : (Sl Bytes)) (⟨true,([] : List T.qc)⟩ : (Sl T.qc))),v2.2.1,true)
 else
  qb9 at_ b r_ r_2 >>= fun v5 =>
  if v5.2.2 then
   some ((T.qc.mk 3 v5.1 0 false false (T.Form.mk (T.Rx.mk 0 ([] : Bytes) false (⟨true,([] : List T.Row)⟩ : (Sl T.Row)) 0 0 false (⟨true,([] : List T.Rx)⟩ : (Sl T.Rx))) (⟨true,([] : List T.Fmt)⟩ : (Sl T.Fmt)) false false) (⟨true,([] : List Bytes)⟩ : (Sl Bytes)) (⟨true,([] : List T.qc)⟩ : (Sl T.qc))),v5.2.1,true)
  else
   some ((T.qc.mk 0 ([] : Bytes) 0 false false (T.Form.mk (T.Rx.mk 0 ([] : Bytes) false (⟨true,([] : List T.Row)⟩ : (Sl T.Row)) 0 0 false (⟨true,([] : List T.Rx)⟩ : (Sl T.Rx))) (⟨true,([] : List T.Fmt)⟩ : (Sl T.Fmt)) false false) (⟨true,([] : List Bytes)⟩ : (Sl Bytes)) (⟨true,([] : List T.qc)⟩ : (Sl T.qc))),0,false)
def q7w (s : Bytes) (at_ : Int) (opt : Bool) : Option ((Bool)) :=
 qd s at_ >>= fun b2 =>
 if (((b2.toNat : Int) != 92) || (decide ((IntKind.i64.wrap (at_ + 1)) ≥ (s.length : Int)))) then
  some false
 else
  qd s (IntKind.i64.wrap (at_ + 1)) >>= fun b6 =>
  if (((b6.toNat : Int) == 36) || (((b6.toNat : Int) == 125) || ((b6.toNat : Int) == 92))) then
   some true
  else
  if opt then
   if ((b6.toNat : Int) == 44) then
    some true
   else
    some ((b6.toNat : Int) == 124)
  else
   some false
def uz : (Int × Bool × Bytes × (List T.qc) × (List Int) × (List T.qc) × (List UInt8)) → Option ((Int × (List T.qc) × (List UInt8)))
 | (at_,braced,r_,r1_,r2_,l,text) =>
  if (decide (at_ < (r_.length : Int))) then
   if braced then
    qd r_ at_ >>= fun b4 =>
    if (!((b4.toNat : Int) == 125)) then
     qd r2_ at_ >>= fun x7 =>
     if (decide (x7 > 0)) then
      qd r1_ at_ >>= fun x10 =>
      if qj (l.length + 2) 224 = true then
       uz (x7,braced,r_,r1_,r2_,(l ++ [(T.qc.mk 0 text 0 false false (T.Form.mk (T.Rx.mk 0 ([] : Bytes) false (⟨true,[]⟩ : (Sl T.Row)) 0 0 false (⟨true,[]⟩ : (Sl T.Rx))) (⟨true,[]⟩ : (Sl T.Fmt)) false false) (⟨true,[]⟩ : (Sl Bytes)) (⟨true,[]⟩ : (Sl T.qc))),x10]),([] : List UInt8))
      else none
     else
      q7w r_ at_ false >>= fun v13 =>
      if v13 then
       qd r_ (IntKind.i64.wrap (at_ + 1)) >>= fun b16 =>
       if qj (text.length + 1) 1 = true then
        uz ((IntKind.i64.wrap ((IntKind.i64.wrap (at_ + 1)) + 1)),braced,r_,r1_,r2_,l,(text ++ [b16]))
       else none
      else
       if qj (text.length + 1) 1 = true then
        uz ((IntKind.i64.wrap (at_ + 1)),braced,r_,r1_,r2_,l,(text ++ [b4]))
       else none
    else
     some (at_,l,text)
   else
    qd r2_ at_ >>= fun x20 =>
    if (decide (x20 > 0)) then
     qd r1_ at_ >>= fun x23 =>
     if qj (l.length + 2) 224 = true then
      uz (x20,braced,r_,r1_,r2_,(l ++ [(T.qc.mk 0 text 0 false false (T.Form.mk (T.Rx.mk 0 ([] : Bytes) false (⟨true,[]⟩ : (Sl T.Row)) 0 0 false (⟨true,[]⟩ : (Sl T.Rx))) (⟨true,[]⟩ : (Sl T.Fmt)) false false) (⟨true,[]⟩ : (Sl Bytes)) (⟨true,[]⟩ : (Sl T.qc))),x23]),([] : List UInt8))
     else none
    else
     q7w r_ at_ false >>= fun v26 =>
     if v26 then
      qd r_ (IntKind.i64.wrap (at_ + 1)) >>= fun b29 =>
      if qj (text.length + 1) 1 = true then
       uz ((IntKind.i64.wrap ((IntKind.i64.wrap (at_ + 1)) + 1)),braced,r_,r1_,r2_,l,(text ++ [b29]))
      else none
     else
      qd r_ at_ >>= fun b32 =>
      if qj (text.length + 1) 1 = true then
       uz ((IntKind.i64.wrap (at_ + 1)),braced,r_,r1_,r2_,l,(text ++ [b32]))
      else none
  else
   some (at_,l,text)
 partial_fixpoint
def q0g : ((Sl T.qc) × Int × (List T.qc)) → Option (((List T.qc)))
 | (l,i,out) =>
  if (decide (i < (l.l.length : Int))) then
   qd l.l i >>= fun x3 =>
   if (x3.kind == 0) then
    if (x3.text == ([] : Bytes)) then
     q0g (l,(IntKind.i64.wrap (i + 1)),out)
    else
    if (decide ((out.length : Int) > 0)) then
     qd out (IntKind.i64.wrap ((out.length : Int) - 1)) >>= fun x8 =>
     if (x8.kind == 0) then
      if x8.text.length + x3.text.length ≤ 2 ^ 62 then
       q0g (l,(IntKind.i64.wrap (i + 1)),(out.set ((IntKind.i64.wrap ((out.length : Int) - 1)).toNat) (T.qc.mk x8.kind (x8.text ++ x3.text) x8.n x8.has x8.turned x8.form x8.opts x8.kids)))
      else none
     else
      if qj (out.length + 1) 224 = true then
       q0g (l,(IntKind.i64.wrap (i + 1)),(out ++ [x3]))
      else none
    else
     if qj (out.length + 1) 224 = true then
      q0g (l,(IntKind.i64.wrap (i + 1)),(out ++ [x3]))
     else none
   else
    if qj (out.length + 1) 224 = true then
     q0g (l,(IntKind.i64.wrap (i + 1)),(out ++ [x3]))
    else none
  else
   some out
 partial_fixpoint
def qag (l : (Sl T.qc)) : Option (((Sl T.qc))) :=
 q0g (l,0,([] : List T.qc)) >>= fun v2 =>
 some (⟨v2.isEmpty,v2⟩ : Sl T.qc)
def q8n (at_ : Int) (braced : Bool) (b : Bytes) (r_ : (List T.qc)) (r_2 : (List Int)) : Option (((Sl T.qc) × Int)) :=
 uz (at_,braced,b,r_,r_2,([] : List T.qc),([] : List UInt8)) >>= fun v2 =>
 if ((decide (v2.1 ≥ (b.length : Int))) && braced) then
  some ((⟨true,([] : List T.qc)⟩ : Sl T.qc),(-1))
 else
  if qj (v2.2.1.length + 1) 224 = true then
   qag (⟨false,(v2.2.1 ++ [(T.qc.mk 0 v2.2.2 0 false false (T.Form.mk (T.Rx.mk 0 ([] : Bytes) false (⟨true,[]⟩ : (Sl T.Row)) 0 0 false (⟨true,[]⟩ : (Sl T.Rx))) (⟨true,[]⟩ : (Sl T.Fmt)) false false) (⟨true,[]⟩ : (Sl Bytes)) (⟨true,[]⟩ : (Sl T.qc)))])⟩ : Sl T.qc) >>= fun v10 =>
   some (v10,v2.1)
  else none
def q3h : (Bytes × Int × T.Form × (List UInt8)) → Option ((Int × (List UInt8)))
 | (s,k,t4,b) =>
  if (decide (k < (s.length : Int))) then
   qd s k >>= fun b3 =>
   if ((b3.toNat : Int) != 47) then
    if (((b3.toNat : Int) == 92) && (decide ((IntKind.i64.wrap (k + 1)) < (s.length : Int)))) then
     qd s (IntKind.i64.wrap (k + 1)) >>= fun b8 =>
     if ((b8.toNat : Int) != 47) then
      if qj (b.length + 1) 1 = true then
       if qj ((b ++ [92]).length + 1) 1 = true then
        q3h (s,(IntKind.i64.wrap ((IntKind.i64.wrap (k + 1)) + 1)),t4,((b ++ [92]) ++ [b8]))
       else none
      else none
     else
      if qj (b.length + 1) 1 = true then
       q3h (s,(IntKind.i64.wrap ((IntKind.i64.wrap (k + 1)) + 1)),t4,(b ++ [b8]))
      else none
    else
     if qj (b.length + 1) 1 = true then
      q3h (s,(IntKind.i64.wrap (k + 1)),t4,(b ++ [b3]))
     else none
   else
    some (k,b)
  else
   some (k,b)
 partial_fixpoint
def q3q (c : UInt8) : Option ((Bool)) :=
 if (decide ((c.toNat : Int) < 128)) then
  some true
 else
  some (decide ((c.toNat : Int) > 191))
def yc : (Bytes × Int × Int × (List Bytes)) → Option (((List Bytes)))
 | (s,frm,i,l) =>
  if (decide (i ≤ (s.length : Int))) then
   if (i == (s.length : Int)) then
    sub2 s frm i >>= fun r4 =>
    if qj (l.length + 1) 16 = true then
     yc (s,i,(IntKind.i64.wrap (i + 1)),(l ++ [r4]))
    else none
   else
    qd s i >>= fun b7 =>
    q3q b7 >>= fun v9 =>
    if v9 then
     sub2 s frm i >>= fun r12 =>
     if qj (l.length + 1) 16 = true then
      yc (s,i,(IntKind.i64.wrap (i + 1)),(l ++ [r12]))
     else none
    else
     yc (s,frm,(IntKind.i64.wrap (i + 1)),l)
  else
   some l
 partial_fixpoint
def q2x (s : Bytes) : Option (((Sl Bytes))) :=
 yc (s,0,1,([] : List Bytes)) >>= fun v2 =>
 some (⟨v2.isEmpty,v2⟩ : Sl Bytes)
def q03 (b : T.qm) : Option ((Bytes)) :=
 if (decide (b.at_ ≥ (b.cs.l.length : Int))) then
  some ([] : Bytes)
 else
  qd b.cs.l b.at_ >>= fun x3 =>
  some x3
def zy (c : Bytes) (b : T.qm) : Option ((Bool × T.qm)) :=
 if (decide (b.at_ ≥ (b.cs.l.length : Int))) then
  some (false,b)
 else
  qd b.cs.l b.at_ >>= fun x3 =>
  if (!(x3 == c)) then
   some (false,b)
  else
   some (true,(T.qm.mk b.cs (IntKind.i64.wrap (b.at_ + 1))))
def q8s (c : UInt8) : Option (((Sl T.Row) × Bool)) :=
 if ((c.toNat : Int) == 100) then
  some ((⟨false,[(T.Row.mk ([48] : Bytes) ([57] : Bytes))]⟩ : Sl T.Row),true)
 else
 if ((c.toNat : Int) == 119) then
  some ((⟨false,[(T.Row.mk ([48] : Bytes) ([57] : Bytes)),(T.Row.mk ([65] : Bytes) ([90] : Bytes)),(T.Row.mk ([95] : Bytes) ([95] : Bytes)),(T.Row.mk ([97] : Bytes) ([122] : Bytes))]⟩ : Sl T.Row),true)
 else
 if ((c.toNat : Int) == 115) then
  some ((⟨false,[(T.Row.mk ([9] : Bytes) ([13] : Bytes)),(T.Row.mk ([32] : Bytes) ([32] : Bytes))]⟩ : Sl T.Row),true)
 else
  some ((⟨true,([] : List T.Row)⟩ : Sl T.Row),false)
def q2e (c : Bytes) : Option ((Bytes × Bool)) :=
 if (c == ([] : Bytes)) then
  some (([] : Bytes),false)
 else
 if (c == ([110] : Bytes)) then
  some (([10] : Bytes),true)
 else
 if (c == ([114] : Bytes)) then
  some (([13] : Bytes),true)
 else
 if (c == ([116] : Bytes)) then
  some (([9] : Bytes),true)
 else
 if (c == ([102] : Bytes)) then
  some (([12] : Bytes),true)
 else
 if (c == ([118] : Bytes)) then
  some (([11] : Bytes),true)
 else
 if ((c.length : Int) == 1) then
  qd c 0 >>= fun b9 =>
  q4y b9 >>= fun v11 =>
  if v11 then
   some (([] : Bytes),false)
  else
   q15 b9 >>= fun v14 =>
   if v14 then
    some (([] : Bytes),false)
   else
    some (c,true)
 else
  some (c,true)
def q9d (b : T.qm) : Option (((Sl T.Row) × Bytes × Bool × T.qm)) :=
 q03 b >>= fun v2 =>
 if ((v2 == ([] : Bytes)) || (v2 == ([93] : Bytes))) then
  some ((⟨true,([] : List T.Row)⟩ : Sl T.Row),([] : Bytes),false,b)
 else
 if (!(v2 == ([92] : Bytes))) then
  some ((⟨true,([] : List T.Row)⟩ : Sl T.Row),v2,true,(T.qm.mk b.cs (IntKind.i64.wrap (b.at_ + 1))))
 else
  q03 (T.qm.mk b.cs (IntKind.i64.wrap (b.at_ + 1))) >>= fun v7 =>
  if ((v7.length : Int) == 1) then
   qd v7 0 >>= fun b10 =>
   q8s b10 >>= fun v12 =>
   if v12.2 then
    some (v12.1,([] : Bytes),true,(T.qm.mk b.cs (IntKind.i64.wrap ((IntKind.i64.wrap (b.at_ + 1)) + 1))))
   else
    q2e v7 >>= fun v15 =>
    some ((⟨true,([] : List T.Row)⟩ : Sl T.Row),v15.1,v15.2,(T.qm.mk b.cs (IntKind.i64.wrap ((IntKind.i64.wrap (b.at_ + 1)) + 1))))
  else
   q2e v7 >>= fun v17 =>
   some ((⟨true,([] : List T.Row)⟩ : Sl T.Row),v17.1,v17.2,(T.qm.mk b.cs (IntKind.i64.wrap ((IntKind.i64.wrap (b.at_ + 1)) + 1))))
def q0c : (T.qm × T.Rx × T.Rx × (List T.Row)) → Option (((Int × T.qm × T.Rx × (List T.Row)) ⊕ (T.qm × (List T.Row))))
 | (r_,t2,x,rows) =>
  zy ([93] : Bytes) r_ >>= fun v2 =>
  if (!v2.1) then
   q9d v2.2 >>= fun v5 =>
   if (!v5.2.2.1) then
    some (.inl (10,v5.2.2.2,(T.Rx.mk 0 ([] : Bytes) false (⟨true,([] : List T.Row)⟩ : (Sl T.Row)) 0 0 false (⟨true,([] : List T.Rx)⟩ : (Sl T.Rx))),rows))
   else
   if (decide ((v5.1.l.length : Int) > 0)) then
    if (rows.isEmpty && v5.1.l.isEmpty) then
     q0c (v5.2.2.2,t2,x,rows)
    else
     if qj (rows.length + v5.1.l.length) 32 = true then
      q0c (v5.2.2.2,t2,x,(rows ++ v5.1.l))
     else none
   else
    q03 v5.2.2.2 >>= fun v11 =>
    if ((v11 == ([45] : Bytes)) && (decide ((IntKind.i64.wrap (v5.2.2.2.at_ + 1)) < (v5.2.2.2.cs.l.length : Int)))) then
     qd v5.2.2.2.cs.l (IntKind.i64.wrap (v5.2.2.2.at_ + 1)) >>= fun x15 =>
     if (!(x15 == ([93] : Bytes))) then
      q9d (T.qm.mk v5.2.2.2.cs (IntKind.i64.wrap (v5.2.2.2.at_ + 1))) >>= fun v18 =>
      if ((!v18.2.2.1) || ((decide ((v18.1.l.length : Int) > 0)) || (j6 v18.2.1 v5.2.1))) then
       some (.inl (10,v18.2.2.2,(T.Rx.mk 0 ([] : Bytes) false (⟨true,([] : List T.Row)⟩ : (Sl T.Row)) 0 0 false (⟨true,([] : List T.Rx)⟩ : (Sl T.Rx))),rows))
      else
       if qj (rows.length + 1) 32 = true then
        q0c (v18.2.2.2,t2,x,(rows ++ [(T.Row.mk v5.2.1 v18.2.1)]))
       else none
     else
      if qj (rows.length + 1) 32 = true then
       q0c (v5.2.2.2,t2,x,(rows ++ [(T.Row.mk v5.2.1 v5.2.1)]))
      else none
    else
     if qj (rows.length + 1) 32 = true then
      q0c (v5.2.2.2,t2,x,(rows ++ [(T.Row.mk v5.2.1 v5.2.1)]))
     else none
  else
   some (.inr (v2.2,rows))
 partial_fixpoint
def mq (c : Bytes) : Option ((Bool)) :=
 if (decide ((c.length : Int) > 0)) then
  qd c 0 >>= fun b3 =>
  q3q b3 >>= fun v5 =>
  if v5 then
   q2x c >>= fun v8 =>
   some ((v8.l.length : Int) == 1)
  else
   some false
 else
  some false
def q5u : ((Sl T.Row) × (Sl T.Row) × Int × Int × T.Row) → Option ((Int))
 | (rows,s,i,k,r_) =>
  if (decide (k > 0)) then
   qd s.l (IntKind.i64.wrap (k - 1)) >>= fun x3 =>
   if (j6 r_.frm x3.frm) then
    q5u (rows,s,i,(IntKind.i64.wrap (k - 1)),r_)
   else
   if (r_.frm == x3.frm) then
    if (j6 r_.to x3.to) then
     q5u (rows,s,i,(IntKind.i64.wrap (k - 1)),r_)
    else
     some k
   else
    some k
  else
   some k
 partial_fixpoint
def q2h : ((Sl T.Row) × (Sl T.Row) × Int) → Option (((Sl T.Row)))
 | (rows,s,i) =>
  if (decide (i < (rows.l.length : Int))) then
   qd rows.l i >>= fun x3 =>
   mq x3.frm >>= fun v5 =>
   if (!v5) then
    q2h (rows,s,(IntKind.i64.wrap (i + 1)))
   else
    mq x3.to >>= fun v8 =>
    if ((!v8) || (!(j6 x3.frm x3.to || x3.frm == x3.to))) then
     q2h (rows,s,(IntKind.i64.wrap (i + 1)))
    else
     q5u (rows,s,i,(s.l.length : Int),x3) >>= fun v12 =>
     yh s.l v12 >>= fun r14 =>
     if qj (r14.length) 32 = true then
      if qj (r14.length + 1) 32 = true then
       jf s.l v12 >>= fun r18 =>
       if qj ((r14 ++ [x3]).length + r18.length) 32 = true then
        q2h (rows,(⟨false,((r14 ++ [x3]) ++ r18)⟩ : Sl T.Row),(IntKind.i64.wrap (i + 1)))
       else none
      else none
     else none
  else
   some s
 partial_fixpoint
def q2v : ((Sl T.Row) × Int × (List T.Row)) → Option (((List T.Row)))
 | (s,i,out) =>
  if (decide (i < (s.l.length : Int))) then
   if (decide ((out.length : Int) > 0)) then
    qd s.l i >>= fun x4 =>
    qd out (IntKind.i64.wrap ((out.length : Int) - 1)) >>= fun x6 =>
    if (j6 x4.frm x6.to || x4.frm == x6.to) then
     q2v (s,(IntKind.i64.wrap (i + 1)),(out.set ((IntKind.i64.wrap ((out.length : Int) - 1)).toNat) (T.Row.mk x6.frm (if j6 x6.to x4.to = true then x4.to else x6.to))))
    else
     if qj (out.length + 1) 32 = true then
      q2v (s,(IntKind.i64.wrap (i + 1)),(out ++ [x4]))
     else none
   else
    qd s.l i >>= fun x10 =>
    if qj (out.length + 1) 32 = true then
     q2v (s,(IntKind.i64.wrap (i + 1)),(out ++ [x10]))
    else none
  else
   some out
 partial_fixpoint
def qd5 (rows : (Sl T.Row)) : Option (((Sl T.Row))) :=
 q2h (rows,(⟨true,([] : List T.Row)⟩ : Sl T.Row),0) >>= fun v2 =>
 q2v (v2,0,([] : List T.Row)) >>= fun v4 =>
 some (⟨v4.isEmpty,v4⟩ : Sl T.Row)
def qbq (b : T.qm) : Option ((T.Rx × Int × T.qm)) :=
 zy ([94] : Bytes) b >>= fun v2 =>
 q0c (v2.2,(T.Rx.mk 0 ([] : Bytes) false (⟨true,([] : List T.Row)⟩ : (Sl T.Row)) 0 0 false (⟨true,([] : List T.Rx)⟩ : (Sl T.Rx))),(T.Rx.mk 4 ([] : Bytes) v2.1 (⟨true,([] : List T.Row)⟩ : (Sl T.Row)) 0 0 false (⟨true,([] : List T.Rx)⟩ : (Sl T.Rx))),([] : List T.Row)) >>= fun v4 =>
 match v4 with
 | .inl y5 =>
  some (y5.2.2.1,y5.1,y5.2.1)
 | .inr y6 =>
  qd5 (⟨y6.2.isEmpty,y6.2⟩ : Sl T.Row) >>= fun v8 =>
  some ((T.Rx.mk 4 ([] : Bytes) v2.1 v8 0 0 false (⟨true,([] : List T.Rx)⟩ : (Sl T.Rx))),0,y6.1)
def q1g : (Int × (List UInt8)) → Option (((List UInt8)))
 | (i,b) =>
  if (decide (i < (b.length : Int))) then
   qd b i >>= fun x3 =>
   if (decide ((x3.toNat : Int) ≥ 65)) then
    if (decide ((x3.toNat : Int) ≤ 90)) then
     q1g ((IntKind.i64.wrap (i + 1)),(b.set i.toNat (u8 (IntKind.u8.wrap ((x3.toNat : Int) + 32)))))
    else
     q1g ((IntKind.i64.wrap (i + 1)),b)
   else
    q1g ((IntKind.i64.wrap (i + 1)),b)
  else
   some b
 partial_fixpoint
def q2b (s : Bytes) : Option ((Bytes)) :=
 q1g (0,s) >>= fun v2 =>
 some v2
def qci (b : T.qm) : Option ((T.Rx × Int × T.qm)) :=
 q03 b >>= fun v2 =>
 q2b v2 >>= fun v4 =>
 if ((v2.length : Int) == 1) then
  qd v4 0 >>= fun b7 =>
  q8s b7 >>= fun v9 =>
  if v9.2 then
   some ((T.Rx.mk 4 ([] : Bytes) (!(v2 == v4)) v9.1 0 0 false (⟨true,([] : List T.Rx)⟩ : (Sl T.Rx))),0,(T.qm.mk b.cs (IntKind.i64.wrap (b.at_ + 1))))
  else
   q2e v2 >>= fun v12 =>
   if (!v12.2) then
    some ((T.Rx.mk 0 ([] : Bytes) false (⟨true,([] : List T.Row)⟩ : (Sl T.Row)) 0 0 false (⟨true,([] : List T.Rx)⟩ : (Sl T.Rx))),10,b)
   else
    some ((T.Rx.mk 2 v12.1 false (⟨true,([] : List T.Row)⟩ : (Sl T.Row)) 0 0 false (⟨true,([] : List T.Rx)⟩ : (Sl T.Rx))),0,(T.qm.mk b.cs (IntKind.i64.wrap (b.at_ + 1))))
 else
  q2e v2 >>= fun v15 =>
  if (!v15.2) then
   some ((T.Rx.mk 0 ([] : Bytes) false (⟨true,([] : List T.Row)⟩ : (Sl T.Row)) 0 0 false (⟨true,([] : List T.Rx)⟩ : (Sl T.Rx))),10,b)
  else
   some ((T.Rx.mk 2 v15.1 false (⟨true,([] : List T.Row)⟩ : (Sl T.Row)) 0 0 false (⟨true,([] : List T.Rx)⟩ : (Sl T.Rx))),0,(T.qm.mk b.cs (IntKind.i64.wrap (b.at_ + 1))))
def q7k : (Int × Int × T.qm) → Option ((Int × Int × T.qm))
 | (n,many,r_) =>
  if (decide (many < 3)) then
   q03 r_ >>= fun v3 =>
   if ((v3.length : Int) == 1) then
    qd v3 0 >>= fun b6 =>
    q15 b6 >>= fun v8 =>
    if v8 then
     q7k ((IntKind.i64.wrap ((IntKind.i64.wrap (n * 10)) + (IntKind.i64.wrap (IntKind.u8.wrap ((b6.toNat : Int) - 48))))),(IntKind.i64.wrap (many + 1)),(T.qm.mk r_.cs (IntKind.i64.wrap (r_.at_ + 1))))
    else
     some (n,many,r_)
   else
    some (n,many,r_)
  else
   some (n,many,r_)
 partial_fixpoint
def q92 (b : T.qm) : Option ((Int × Bool × T.qm)) :=
 q7k (0,0,b) >>= fun v2 =>
 if (decide (v2.2.1 > 0)) then
  some (v2.1,(decide (v2.1 ≤ 255)),v2.2.2)
 else
  some (v2.1,false,v2.2.2)
def q6e (x : T.Rx) (b : T.qm) : Option ((T.Rx × Int × T.qm)) :=
 zy ([42] : Bytes) b >>= fun v2 =>
 if v2.1 then
  zy ([63] : Bytes) v2.2 >>= fun v5 =>
  some ((T.Rx.mk 7 ([] : Bytes) false (⟨true,[]⟩ : (Sl T.Row)) 0 (-1) v5.1 (⟨false,[x]⟩ : (Sl T.Rx))),0,v5.2)
 else
  zy ([43] : Bytes) v2.2 >>= fun v7 =>
  if v7.1 then
   zy ([63] : Bytes) v7.2 >>= fun v10 =>
   some ((T.Rx.mk 7 ([] : Bytes) false (⟨true,[]⟩ : (Sl T.Row)) 1 (-1) v10.1 (⟨false,[x]⟩ : (Sl T.Rx))),0,v10.2)
  else
   zy ([63] : Bytes) v7.2 >>= fun v12 =>
   if v12.1 then
    zy ([63] : Bytes) v12.2 >>= fun v15 =>
    some ((T.Rx.mk 7 ([] : Bytes) false (⟨true,[]⟩ : (Sl T.Row)) 0 1 v15.1 (⟨false,[x]⟩ : (Sl T.Rx))),0,v15.2)
   else
    zy ([123] : Bytes) v12.2 >>= fun v17 =>
    if v17.1 then
     q92 v17.2 >>= fun v20 =>
     if (!v20.2.1) then
      some ((T.Rx.mk 0 ([] : Bytes) false (⟨true,([] : List T.Row)⟩ : (Sl T.Row)) 0 0 false (⟨true,([] : List T.Rx)⟩ : (Sl T.Rx))),10,v20.2.2)
     else
      zy ([44] : Bytes) v20.2.2 >>= fun v23 =>
      if v23.1 then
       q03 v23.2 >>= fun v26 =>
       if (!(v26 == ([125] : Bytes))) then
        q92 v23.2 >>= fun v29 =>
        if (!v29.2.1) then
         some ((T.Rx.mk 0 ([] : Bytes) false (⟨true,([] : List T.Row)⟩ : (Sl T.Row)) 0 0 false (⟨true,([] : List T.Rx)⟩ : (Sl T.Rx))),10,v29.2.2)
        else
         zy ([125] : Bytes) v29.2.2 >>= fun v32 =>
         if ((!v32.1) || ((v29.1 != (-1)) && (decide (v29.1 < v20.1)))) then
          some ((T.Rx.mk 0 ([] : Bytes) false (⟨true,([] : List T.Row)⟩ : (Sl T.Row)) 0 0 false (⟨true,([] : List T.Rx)⟩ : (Sl T.Rx))),10,v32.2)
         else
          zy ([63] : Bytes) v32.2 >>= fun v39 =>
          some ((T.Rx.mk 7 ([] : Bytes) false (⟨true,[]⟩ : (Sl T.Row)) v20.1 v29.1 v39.1 (⟨false,[x]⟩ : (Sl T.Rx))),0,v39.2)
       else
        zy ([125] : Bytes) v23.2 >>= fun v41 =>
        if (!v41.1) then
         some ((T.Rx.mk 0 ([] : Bytes) false (⟨true,([] : List T.Row)⟩ : (Sl T.Row)) 0 0 false (⟨true,([] : List T.Rx)⟩ : (Sl T.Rx))),10,v41.2)
        else
         zy ([63] : Bytes) v41.2 >>= fun v44 =>
         some ((T.Rx.mk 7 ([] : Bytes) false (⟨true,[]⟩ : (Sl T.Row)) v20.1 (-1) v44.1 (⟨false,[x]⟩ : (Sl T.Rx))),0,v44.2)
      else
       zy ([125] : Bytes) v23.2 >>= fun v46 =>
       if ((!v46.1) || ((v20.1 != (-1)) && (decide (v20.1 < v20.1)))) then
        some ((T.Rx.mk 0 ([] : Bytes) false (⟨true,([] : List T.Row)⟩ : (Sl T.Row)) 0 0 false (⟨true,([] : List T.Rx)⟩ : (Sl T.Rx))),10,v46.2)
       else
        zy ([63] : Bytes) v46.2 >>= fun v53 =>
        some ((T.Rx.mk 7 ([] : Bytes) false (⟨true,[]⟩ : (Sl T.Row)) v20.1 v20.1 v53.1 (⟨false,[x]⟩ : (Sl T.Rx))),0,v53.2)
    else
     some (x,0,v17.2)
def q21 : (Int × (Sl T.Rx) × Int × (List T.Rx)) → Option (((List T.Rx)))
 | (kind,xs,i,l) =>
  if (decide (i < (xs.l.length : Int))) then
   qd xs.l i >>= fun x3 =>
   if (x3.kind == kind) then
    if (l.isEmpty && x3.kids.l.isEmpty) then
     q21 (kind,xs,(IntKind.i64.wrap (i + 1)),l)
    else
     if qj (l.length + x3.kids.l.length) 104 = true then
      q21 (kind,xs,(IntKind.i64.wrap (i + 1)),(l ++ x3.kids.l))
     else none
   else
    if qj (l.length + 1) 104 = true then
     q21 (kind,xs,(IntKind.i64.wrap (i + 1)),(l ++ [x3]))
    else none
  else
   some l
 partial_fixpoint
def q97 (kind : Int) (xs : (Sl T.Rx)) : Option (((Sl T.Rx))) :=
 q21 (kind,xs,0,([] : List T.Rx)) >>= fun v2 =>
 some (⟨v2.isEmpty,v2⟩ : Sl T.Rx)
def qaa (xs : (Sl T.Rx)) : Option ((T.Rx)) :=
 q97 0 xs >>= fun v2 =>
 if ((v2.l.length : Int) == 1) then
  qd v2.l 0 >>= fun x5 =>
  some x5
 else
  some (T.Rx.mk 0 ([] : Bytes) false (⟨true,([] : List T.Row)⟩ : (Sl T.Row)) 0 0 false v2)
def qbs (xs : (Sl T.Rx)) : Option ((T.Rx)) :=
 q97 1 xs >>= fun v2 =>
 if ((v2.l.length : Int) == 0) then
  some (T.Rx.mk 0 ([] : Bytes) false (⟨true,([] : List T.Row)⟩ : (Sl T.Row)) 0 0 false (⟨true,([] : List T.Rx)⟩ : (Sl T.Rx)))
 else
 if ((v2.l.length : Int) == 1) then
  qd v2.l 0 >>= fun x6 =>
  some x6
 else
  some (T.Rx.mk 1 ([] : Bytes) false (⟨true,([] : List T.Row)⟩ : (Sl T.Row)) 0 0 false v2)
mutual
def q1d : (Int × T.qm) → Option ((T.Rx × Int × T.qm))
 | (deep,b) =>
  q7o (deep,b,(T.Rx.mk 0 ([] : Bytes) false (⟨true,([] : List T.Row)⟩ : (Sl T.Row)) 0 0 false (⟨true,([] : List T.Rx)⟩ : (Sl T.Rx))),([] : List T.Rx)) >>= fun v2 =>
  match v2 with
  | .inl y3 =>
   some (y3.2.2.1,y3.1,y3.2.1)
  | .inr y4 =>
   some (y4.2.2,y4.1,y4.2.1)
 partial_fixpoint
def q7o : (Int × T.qm × T.Rx × (List T.Rx)) → Option (((Int × T.qm × T.Rx × (List T.Rx)) ⊕ (Int × T.qm × T.Rx)))
 | (deep,r_,t4,alts) =>
  q6h (deep,r_,t4,alts,([] : List T.Rx)) >>= fun v2 =>
  match v2 with
  | .inl y3 =>
   some (.inl (y3.1,y3.2.1,y3.2.2.1,alts))
  | .inr y4 =>
   qaa (⟨y4.2.isEmpty,y4.2⟩ : Sl T.Rx) >>= fun v6 =>
   if qj (alts.length + 1) 104 = true then
    zy ([124] : Bytes) y4.1 >>= fun v9 =>
    if (!v9.1) then
     qbs (⟨false,(alts ++ [v6])⟩ : Sl T.Rx) >>= fun v12 =>
     some (.inr (0,v9.2,v12))
    else
     q7o (deep,v9.2,t4,(alts ++ [v6]))
   else none
 partial_fixpoint
def q6h : (Int × T.qm × T.Rx × (List T.Rx) × (List T.Rx)) → Option (((Int × T.qm × T.Rx × (List T.Rx)) ⊕ (T.qm × (List T.Rx))))
 | (deep,r_,t4,alts,terms) =>
  if (decide (r_.at_ < (r_.cs.l.length : Int))) then
   q03 r_ >>= fun v3 =>
   if (!(v3 == ([124] : Bytes))) then
    if (!(v3 == ([41] : Bytes))) then
     qau (deep,r_) >>= fun v7 =>
     if (v7.2.1 != 0) then
      some (.inl (v7.2.1,v7.2.2,(T.Rx.mk 0 ([] : Bytes) false (⟨true,([] : List T.Row)⟩ : (Sl T.Row)) 0 0 false (⟨true,([] : List T.Rx)⟩ : (Sl T.Rx))),terms))
     else
      if qj (terms.length + 1) 104 = true then
       q6h (deep,v7.2.2,t4,alts,(terms ++ [v7.1]))
      else none
    else
     some (.inr (r_,terms))
   else
    some (.inr (r_,terms))
  else
   some (.inr (r_,terms))
 partial_fixpoint
def qau : (Int × T.qm) → Option ((T.Rx × Int × T.qm))
 | (deep,b) =>
  zy ([94] : Bytes) b >>= fun v2 =>
  if v2.1 then
   some ((T.Rx.mk 8 ([] : Bytes) false (⟨true,([] : List T.Row)⟩ : (Sl T.Row)) 0 0 false (⟨true,([] : List T.Rx)⟩ : (Sl T.Rx))),0,v2.2)
  else
   zy ([36] : Bytes) v2.2 >>= fun v5 =>
   if v5.1 then
    some ((T.Rx.mk 9 ([] : Bytes) false (⟨true,([] : List T.Row)⟩ : (Sl T.Row)) 0 0 false (⟨true,([] : List T.Rx)⟩ : (Sl T.Rx))),0,v5.2)
   else
    q03 v5.2 >>= fun v8 =>
    if ((v8 == ([92] : Bytes)) && (decide ((IntKind.i64.wrap (v5.2.at_ + 1)) < (v5.2.cs.l.length : Int)))) then
     qd v5.2.cs.l (IntKind.i64.wrap (v5.2.at_ + 1)) >>= fun x12 =>
     if (x12 == ([98] : Bytes)) then
      some ((T.Rx.mk 10 ([] : Bytes) false (⟨true,([] : List T.Row)⟩ : (Sl T.Row)) 0 0 false (⟨true,([] : List T.Rx)⟩ : (Sl T.Rx))),0,(T.qm.mk v5.2.cs (IntKind.i64.wrap (v5.2.at_ + 2))))
     else
     if (x12 == ([66] : Bytes)) then
      some ((T.Rx.mk 11 ([] : Bytes) false (⟨true,([] : List T.Row)⟩ : (Sl T.Row)) 0 0 false (⟨true,([] : List T.Rx)⟩ : (Sl T.Rx))),0,(T.qm.mk v5.2.cs (IntKind.i64.wrap (v5.2.at_ + 2))))
     else
      q6u (deep,v5.2) >>= fun v16 =>
      if (v16.2.1 != 0) then
       some ((T.Rx.mk 0 ([] : Bytes) false (⟨true,([] : List T.Row)⟩ : (Sl T.Row)) 0 0 false (⟨true,([] : List T.Rx)⟩ : (Sl T.Rx))),v16.2.1,v16.2.2)
      else
       q6e v16.1 v16.2.2 >>= fun v19 =>
       some (v19.1,v19.2.1,v19.2.2)
    else
     q6u (deep,v5.2) >>= fun v26 =>
     if (v26.2.1 != 0) then
      some ((T.Rx.mk 0 ([] : Bytes) false (⟨true,([] : List T.Row)⟩ : (Sl T.Row)) 0 0 false (⟨true,([] : List T.Rx)⟩ : (Sl T.Rx))),v26.2.1,v26.2.2)
     else
      q6e v26.1 v26.2.2 >>= fun v29 =>
      some (v29.1,v29.2.1,v29.2.2)
 partial_fixpoint
def q6u : (Int × T.qm) → Option ((T.Rx × Int × T.qm))
 | (deep,b) =>
  zy ([46] : Bytes) b >>= fun v2 =>
  if v2.1 then
   some ((T.Rx.mk 3 ([] : Bytes) false (⟨true,([] : List T.Row)⟩ : (Sl T.Row)) 0 0 false (⟨true,([] : List T.Rx)⟩ : (Sl T.Rx))),0,v2.2)
  else
   zy ([40] : Bytes) v2.2 >>= fun v5 =>
   if v5.1 then
    if (decide (deep ≥ 16)) then
     some ((T.Rx.mk 0 ([] : Bytes) false (⟨true,([] : List T.Row)⟩ : (Sl T.Row)) 0 0 false (⟨true,([] : List T.Rx)⟩ : (Sl T.Rx))),8,v5.2)
    else
     zy ([63] : Bytes) v5.2 >>= fun v9 =>
     if v9.1 then
      zy ([58] : Bytes) v9.2 >>= fun v12 =>
      if (!v12.1) then
       some ((T.Rx.mk 0 ([] : Bytes) false (⟨true,([] : List T.Row)⟩ : (Sl T.Row)) 0 0 false (⟨true,([] : List T.Rx)⟩ : (Sl T.Rx))),10,v12.2)
      else
       q1d ((IntKind.i64.wrap (deep + 1)),v12.2) >>= fun v15 =>
       if (v15.2.1 != 0) then
        some ((T.Rx.mk 0 ([] : Bytes) false (⟨true,([] : List T.Row)⟩ : (Sl T.Row)) 0 0 false (⟨true,([] : List T.Rx)⟩ : (Sl T.Rx))),v15.2.1,v15.2.2)
       else
        zy ([41] : Bytes) v15.2.2 >>= fun v18 =>
        if (!v18.1) then
         some ((T.Rx.mk 0 ([] : Bytes) false (⟨true,([] : List T.Row)⟩ : (Sl T.Row)) 0 0 false (⟨true,([] : List T.Rx)⟩ : (Sl T.Rx))),10,v18.2)
        else
         some ((T.Rx.mk 6 ([] : Bytes) false (⟨true,[]⟩ : (Sl T.Row)) 0 0 false (⟨false,[v15.1]⟩ : (Sl T.Rx))),0,v18.2)
     else
      q1d ((IntKind.i64.wrap (deep + 1)),v9.2) >>= fun v21 =>
      if (v21.2.1 != 0) then
       some ((T.Rx.mk 0 ([] : Bytes) false (⟨true,([] : List T.Row)⟩ : (Sl T.Row)) 0 0 false (⟨true,([] : List T.Rx)⟩ : (Sl T.Rx))),v21.2.1,v21.2.2)
      else
       zy ([41] : Bytes) v21.2.2 >>= fun v24 =>
       if (!v24.1) then
        some ((T.Rx.mk 0 ([] : Bytes) false (⟨true,([] : List T.Row)⟩ : (Sl T.Row)) 0 0 false (⟨true,([] : List T.Rx)⟩ : (Sl T.Rx))),10,v24.2)
       else
        some ((T.Rx.mk 5 ([] : Bytes) false (⟨true,[]⟩ : (Sl T.Row)) 0 0 false (⟨false,[v21.1]⟩ : (Sl T.Rx))),0,v24.2)
   else
    zy ([91] : Bytes) v5.2 >>= fun v27 =>
    if v27.1 then
     qbq v27.2 >>= fun v30 =>
     some (v30.1,v30.2.1,v30.2.2)
    else
     zy ([92] : Bytes) v27.2 >>= fun v32 =>
     if v32.1 then
      qci v32.2 >>= fun v35 =>
      some (v35.1,v35.2.1,v35.2.2)
     else
      q03 v32.2 >>= fun v37 =>
      if ((v37 == ([42] : Bytes)) || ((v37 == ([43] : Bytes)) || ((v37 == ([63] : Bytes)) || ((v37 == ([41] : Bytes)) || ((v37 == ([123] : Bytes)) || (v37 == ([124] : Bytes))))))) then
       some ((T.Rx.mk 0 ([] : Bytes) false (⟨true,([] : List T.Row)⟩ : (Sl T.Row)) 0 0 false (⟨true,([] : List T.Rx)⟩ : (Sl T.Rx))),10,v32.2)
      else
       mq v37 >>= fun v45 =>
       if (!v45) then
        some ((T.Rx.mk 0 ([] : Bytes) false (⟨true,([] : List T.Row)⟩ : (Sl T.Row)) 0 0 false (⟨true,([] : List T.Rx)⟩ : (Sl T.Rx))),10,v32.2)
       else
        some ((T.Rx.mk 2 v37 false (⟨true,([] : List T.Row)⟩ : (Sl T.Row)) 0 0 false (⟨true,([] : List T.Rx)⟩ : (Sl T.Rx))),0,(T.qm.mk v32.2.cs (IntKind.i64.wrap (v32.2.at_ + 1))))
 partial_fixpoint
end
def qak (s : Bytes) : Option ((T.Rx × Int)) :=
 if (decide ((s.length : Int) > 256)) then
  some ((T.Rx.mk 0 ([] : Bytes) false (⟨true,([] : List T.Row)⟩ : (Sl T.Row)) 0 0 false (⟨true,([] : List T.Rx)⟩ : (Sl T.Rx))),4)
 else
  q2x s >>= fun v3 =>
  q1d (0,(T.qm.mk v3 0)) >>= fun v5 =>
  if ((v5.2.1 == 0) && (decide (v5.2.2.at_ < (v5.2.2.cs.l.length : Int)))) then
   some ((T.Rx.mk 0 ([] : Bytes) false (⟨true,([] : List T.Row)⟩ : (Sl T.Row)) 0 0 false (⟨true,([] : List T.Rx)⟩ : (Sl T.Rx))),10)
  else
  if (v5.2.1 != 0) then
   some ((T.Rx.mk 0 ([] : Bytes) false (⟨true,([] : List T.Row)⟩ : (Sl T.Row)) 0 0 false (⟨true,([] : List T.Rx)⟩ : (Sl T.Rx))),v5.2.1)
  else
   some (v5.1,0)
def q9a (way : Int) : Option ((Bytes)) :=
 if (way == 1) then
  some ([117,112,99,97,115,101] : Bytes)
 else
 if (way == 2) then
  some ([100,111,119,110,99,97,115,101] : Bytes)
 else
 if (way == 3) then
  some ([99,97,112,105,116,97,108,105,122,101] : Bytes)
 else
 if (way == 4) then
  some ([99,97,109,101,108,99,97,115,101] : Bytes)
 else
 if (way == 5) then
  some ([112,97,115,99,97,108,99,97,115,101] : Bytes)
 else
  some ([] : Bytes)
def q56 : (Bytes × Int × Int × T.Fmt × T.Fmt) → Option (((Int × Bool × T.Fmt × T.Fmt) ⊕ (Unit)))
 | (s,end_,w,t4,f) =>
  if (decide (w ≤ 5)) then
   q9a w >>= fun v3 =>
   if v3.length + ([125] : Bytes).length ≤ 2 ^ 62 then
    if (decide ((IntKind.i64.wrap ((IntKind.i64.wrap ((s.length : Int) - end_)) - 2)) ≥ ((v3 ++ ([125] : Bytes)).length : Int))) then
     sub2 s (IntKind.i64.wrap (end_ + 2)) (IntKind.i64.wrap ((IntKind.i64.wrap (end_ + 2)) + ((v3 ++ ([125] : Bytes)).length : Int))) >>= fun r7 =>
     if (r7 == (v3 ++ ([125] : Bytes))) then
      some (.inl ((IntKind.i64.wrap ((IntKind.i64.wrap (end_ + 2)) + ((v3 ++ ([125] : Bytes)).length : Int))),true,(T.Fmt.mk 2 f.n w f.thn f.els),(T.Fmt.mk 2 f.n w f.thn f.els)))
     else
      q56 (s,end_,(IntKind.i64.wrap (w + 1)),t4,f)
    else
     q56 (s,end_,(IntKind.i64.wrap (w + 1)),t4,f)
   else none
  else
   some (.inr ())
 partial_fixpoint
def q7t (s : Bytes) (at_ : Int) (colon : Bool) : Option ((Bool)) :=
 qd s at_ >>= fun b2 =>
 if (((b2.toNat : Int) != 92) || (decide ((IntKind.i64.wrap (at_ + 1)) ≥ (s.length : Int)))) then
  some false
 else
  qd s (IntKind.i64.wrap (at_ + 1)) >>= fun b6 =>
  if (((b6.toNat : Int) == 36) || (((b6.toNat : Int) == 125) || (((b6.toNat : Int) == 92) || ((b6.toNat : Int) == 47)))) then
   some true
  else
  if colon then
   some ((b6.toNat : Int) == 58)
  else
   some false
def q5j : (Bytes × Int × UInt8 × (List UInt8)) → Option ((Int × (List UInt8)))
 | (s,at_,stop,b) =>
  if (decide (at_ < (s.length : Int))) then
   qd s at_ >>= fun b3 =>
   if ((b3.toNat : Int) != (stop.toNat : Int)) then
    q7t s at_ true >>= fun v6 =>
    if v6 then
     qd s (IntKind.i64.wrap (at_ + 1)) >>= fun b9 =>
     if qj (b.length + 1) 1 = true then
      q5j (s,(IntKind.i64.wrap ((IntKind.i64.wrap (at_ + 1)) + 1)),stop,(b ++ [b9]))
     else none
    else
     if qj (b.length + 1) 1 = true then
      q5j (s,(IntKind.i64.wrap (at_ + 1)),stop,(b ++ [b3]))
     else none
   else
    some (at_,b)
  else
   some (at_,b)
 partial_fixpoint
def q3s (s : Bytes) (at_ : Int) (stop : UInt8) : Option ((Bytes × Int × Bool)) :=
 q5j (s,at_,stop,([] : List UInt8)) >>= fun v2 =>
 if (decide (v2.1 ≥ (s.length : Int))) then
  some (([] : Bytes),0,false)
 else
  some (v2.2,v2.1,true)
def qab (s : Bytes) (at_ : Int) : Option ((T.Fmt × Int × Bool)) :=
 q6d s (IntKind.i64.wrap (at_ + 1)) >>= fun v2 =>
 if v2.2.2 then
  some ((T.Fmt.mk 1 v2.1 0 ([] : Bytes) ([] : Bytes)),v2.2.1,true)
 else
 if (decide ((IntKind.i64.wrap (at_ + 1)) ≥ (s.length : Int))) then
  some ((T.Fmt.mk 0 0 0 ([] : Bytes) ([] : Bytes)),0,false)
 else
  qd s (IntKind.i64.wrap (at_ + 1)) >>= fun b6 =>
  if ((b6.toNat : Int) != 123) then
   some ((T.Fmt.mk 0 0 0 ([] : Bytes) ([] : Bytes)),0,false)
  else
   q6d s (IntKind.i64.wrap (at_ + 2)) >>= fun v9 =>
   if ((!v9.2.2) || (decide (v9.2.1 ≥ (s.length : Int)))) then
    some ((T.Fmt.mk 0 0 0 ([] : Bytes) ([] : Bytes)),0,false)
   else
    qd s v9.2.1 >>= fun b13 =>
    if ((b13.toNat : Int) == 125) then
     some ((T.Fmt.mk 1 v9.1 0 ([] : Bytes) ([] : Bytes)),(IntKind.i64.wrap (v9.2.1 + 1)),true)
    else
    if (((b13.toNat : Int) != 58) || (decide ((IntKind.i64.wrap (v9.2.1 + 1)) ≥ (s.length : Int)))) then
     some ((T.Fmt.mk 0 0 0 ([] : Bytes) ([] : Bytes)),0,false)
    else
     qd s (IntKind.i64.wrap (v9.2.1 + 1)) >>= fun b18 =>
     if ((b18.toNat : Int) == 47) then
      q56 (s,v9.2.1,1,(T.Fmt.mk 0 0 0 ([] : Bytes) ([] : Bytes)),(T.Fmt.mk 0 v9.1 0 ([] : Bytes) ([] : Bytes))) >>= fun v21 =>
      match v21 with
      | .inl y22 =>
       some (y22.2.2.1,y22.1,y22.2.1)
      | .inr y23 =>
       some ((T.Fmt.mk 0 0 0 ([] : Bytes) ([] : Bytes)),0,false)
     else
     if ((b18.toNat : Int) == 43) then
      q3s s (IntKind.i64.wrap (v9.2.1 + 2)) 125 >>= fun v26 =>
      if (!v26.2.2) then
       some ((T.Fmt.mk 0 0 0 ([] : Bytes) ([] : Bytes)),0,false)
      else
       some ((T.Fmt.mk 3 v9.1 0 v26.1 ([] : Bytes)),(IntKind.i64.wrap (v26.2.1 + 1)),true)
     else
     if ((b18.toNat : Int) == 63) then
      q3s s (IntKind.i64.wrap (v9.2.1 + 2)) 58 >>= fun v30 =>
      if v30.2.2 then
       q3s s (IntKind.i64.wrap (v30.2.1 + 1)) 125 >>= fun v33 =>
       if (!v33.2.2) then
        some ((T.Fmt.mk 0 0 0 ([] : Bytes) ([] : Bytes)),0,false)
       else
        some ((T.Fmt.mk 5 v9.1 0 v30.1 v33.1),(IntKind.i64.wrap (v33.2.1 + 1)),true)
      else
       some ((T.Fmt.mk 0 0 0 ([] : Bytes) ([] : Bytes)),0,false)
     else
     if ((b18.toNat : Int) == 45) then
      q3s s (IntKind.i64.wrap (v9.2.1 + 2)) 125 >>= fun v37 =>
      if (!v37.2.2) then
       some ((T.Fmt.mk 0 0 0 ([] : Bytes) ([] : Bytes)),0,false)
      else
       some ((T.Fmt.mk 4 v9.1 0 ([] : Bytes) v37.1),(IntKind.i64.wrap (v37.2.1 + 1)),true)
     else
      q3s s (IntKind.i64.wrap (v9.2.1 + 1)) 125 >>= fun v40 =>
      if (!v40.2.2) then
       some ((T.Fmt.mk 0 0 0 ([] : Bytes) ([] : Bytes)),0,false)
      else
       some ((T.Fmt.mk 4 v9.1 0 ([] : Bytes) v40.1),(IntKind.i64.wrap (v40.2.1 + 1)),true)
def q2s (c : UInt8) (r_ : (List T.Fmt)) : Option (((List T.Fmt))) :=
 if ((r_.length : Int) == 0) then
  if qj (r_.length + 1) 56 = true then
   qd (r_ ++ [(T.Fmt.mk 0 0 0 ([] : Bytes) ([] : Bytes))]) (IntKind.i64.wrap (((r_ ++ [(T.Fmt.mk 0 0 0 ([] : Bytes) ([] : Bytes))]).length : Int) - 1)) >>= fun x4 =>
   if x4.thn.length + [c].length ≤ 2 ^ 62 then
    some ((r_ ++ [(T.Fmt.mk 0 0 0 ([] : Bytes) ([] : Bytes))]).set ((IntKind.i64.wrap (((r_ ++ [(T.Fmt.mk 0 0 0 ([] : Bytes) ([] : Bytes))]).length : Int) - 1)).toNat) (T.Fmt.mk x4.kind x4.n x4.cas (x4.thn ++ [c]) x4.els))
   else none
  else none
 else
  qd r_ (IntKind.i64.wrap ((r_.length : Int) - 1)) >>= fun x7 =>
  if (x7.kind != 0) then
   if qj (r_.length + 1) 56 = true then
    qd (r_ ++ [(T.Fmt.mk 0 0 0 ([] : Bytes) ([] : Bytes))]) (IntKind.i64.wrap (((r_ ++ [(T.Fmt.mk 0 0 0 ([] : Bytes) ([] : Bytes))]).length : Int) - 1)) >>= fun x11 =>
    if x11.thn.length + [c].length ≤ 2 ^ 62 then
     some ((r_ ++ [(T.Fmt.mk 0 0 0 ([] : Bytes) ([] : Bytes))]).set ((IntKind.i64.wrap (((r_ ++ [(T.Fmt.mk 0 0 0 ([] : Bytes) ([] : Bytes))]).length : Int) - 1)).toNat) (T.Fmt.mk x11.kind x11.n x11.cas (x11.thn ++ [c]) x11.els))
    else none
   else none
  else
   if x7.thn.length + [c].length ≤ 2 ^ 62 then
    some (r_.set ((IntKind.i64.wrap ((r_.length : Int) - 1)).toNat) (T.Fmt.mk x7.kind x7.n x7.cas (x7.thn ++ [c]) x7.els))
   else none
def q0f : (Bytes × Int × (List T.Fmt)) → Option ((Int × (List T.Fmt)))
 | (s,at_,fs) =>
  if (decide (at_ < (s.length : Int))) then
   qd s at_ >>= fun b3 =>
   if ((b3.toNat : Int) != 47) then
    if ((b3.toNat : Int) == 36) then
     qab s at_ >>= fun v7 =>
     if v7.2.2 then
      if qj (fs.length + 1) 56 = true then
       q0f (s,v7.2.1,(fs ++ [v7.1]))
      else none
     else
      q7t s at_ false >>= fun v11 =>
      if v11 then
       qd s (IntKind.i64.wrap (at_ + 1)) >>= fun b14 =>
       q2s b14 fs >>= fun v16 =>
       q0f (s,(IntKind.i64.wrap ((IntKind.i64.wrap (at_ + 1)) + 1)),v16)
      else
       q2s b3 fs >>= fun v18 =>
       q0f (s,(IntKind.i64.wrap (at_ + 1)),v18)
    else
     q7t s at_ false >>= fun v20 =>
     if v20 then
      qd s (IntKind.i64.wrap (at_ + 1)) >>= fun b23 =>
      q2s b23 fs >>= fun v25 =>
      q0f (s,(IntKind.i64.wrap ((IntKind.i64.wrap (at_ + 1)) + 1)),v25)
     else
      q2s b3 fs >>= fun v27 =>
      q0f (s,(IntKind.i64.wrap (at_ + 1)),v27)
   else
    some (at_,fs)
  else
   some (at_,fs)
 partial_fixpoint
def qcw (s : Bytes) (at_ : Int) : Option (((Sl T.Fmt) × Int × Bool)) :=
 if ((decide (at_ < 0)) || (decide (at_ > (s.length : Int)))) then
  some ((⟨true,([] : List T.Fmt)⟩ : Sl T.Fmt),0,false)
 else
  q0f (s,at_,([] : List T.Fmt)) >>= fun v4 =>
  if (decide (v4.1 ≥ (s.length : Int))) then
   some ((⟨true,([] : List T.Fmt)⟩ : Sl T.Fmt),0,false)
  else
   some ((⟨v4.2.isEmpty,v4.2⟩ : Sl T.Fmt),v4.1,true)
def q3i : (Bytes × Int × T.Form × (List UInt8) × T.Rx × T.Form) → Option (((Int × Bool × Int × T.Form × T.Form) ⊕ (Int × T.Form)))
 | (s,end_,t4,r1_,b2_,f) =>
  if (decide (end_ < (s.length : Int))) then
   qd s end_ >>= fun b3 =>
   if ((b3.toNat : Int) != 125) then
    if (((b3.toNat : Int) == 103) && (!f.all)) then
     q3i (s,(IntKind.i64.wrap (end_ + 1)),t4,r1_,b2_,(T.Form.mk f.rx f.fmts f.fold true))
    else
    if (((b3.toNat : Int) == 105) && (!f.fold)) then
     q3i (s,(IntKind.i64.wrap (end_ + 1)),t4,r1_,b2_,(T.Form.mk f.rx f.fmts true f.all))
    else
     some (.inl (0,false,end_,(T.Form.mk (T.Rx.mk 0 ([] : Bytes) false (⟨true,([] : List T.Row)⟩ : (Sl T.Row)) 0 0 false (⟨true,([] : List T.Rx)⟩ : (Sl T.Rx))) (⟨true,([] : List T.Fmt)⟩ : (Sl T.Fmt)) false false),f))
   else
    some (.inr (end_,f))
  else
   some (.inr (end_,f))
 partial_fixpoint
def qbd (s : Bytes) (at_ : Int) : Option ((T.Form × Int × Bool)) :=
 if ((decide (at_ < 0)) || (decide (at_ ≥ (s.length : Int)))) then
  some ((T.Form.mk (T.Rx.mk 0 ([] : Bytes) false (⟨true,([] : List T.Row)⟩ : (Sl T.Row)) 0 0 false (⟨true,([] : List T.Rx)⟩ : (Sl T.Rx))) (⟨true,([] : List T.Fmt)⟩ : (Sl T.Fmt)) false false),0,false)
 else
  qd s at_ >>= fun b4 =>
  if ((b4.toNat : Int) != 47) then
   some ((T.Form.mk (T.Rx.mk 0 ([] : Bytes) false (⟨true,([] : List T.Row)⟩ : (Sl T.Row)) 0 0 false (⟨true,([] : List T.Rx)⟩ : (Sl T.Rx))) (⟨true,([] : List T.Fmt)⟩ : (Sl T.Fmt)) false false),0,false)
  else
   q3h (s,(IntKind.i64.wrap (at_ + 1)),(T.Form.mk (T.Rx.mk 0 ([] : Bytes) false (⟨true,([] : List T.Row)⟩ : (Sl T.Row)) 0 0 false (⟨true,([] : List T.Rx)⟩ : (Sl T.Rx))) (⟨true,([] : List T.Fmt)⟩ : (Sl T.Fmt)) false false),([] : List UInt8)) >>= fun v7 =>
   if (decide (v7.1 ≥ (s.length : Int))) then
    some ((T.Form.mk (T.Rx.mk 0 ([] : Bytes) false (⟨true,([] : List T.Row)⟩ : (Sl T.Row)) 0 0 false (⟨true,([] : List T.Rx)⟩ : (Sl T.Rx))) (⟨true,([] : List T.Fmt)⟩ : (Sl T.Fmt)) false false),0,false)
   else
    qak v7.2 >>= fun v10 =>
    if (v10.2 != 0) then
     some ((T.Form.mk (T.Rx.mk 0 ([] : Bytes) false (⟨true,([] : List T.Row)⟩ : (Sl T.Row)) 0 0 false (⟨true,([] : List T.Rx)⟩ : (Sl T.Rx))) (⟨true,([] : List T.Fmt)⟩ : (Sl T.Fmt)) false false),0,false)
    else
     qcw s (IntKind.i64.wrap (v7.1 + 1)) >>= fun v13 =>
     if (!v13.2.2) then
      some ((T.Form.mk (T.Rx.mk 0 ([] : Bytes) false (⟨true,([] : List T.Row)⟩ : (Sl T.Row)) 0 0 false (⟨true,([] : List T.Rx)⟩ : (Sl T.Rx))) (⟨true,([] : List T.Fmt)⟩ : (Sl T.Fmt)) false false),0,false)
     else
      q3i (s,(IntKind.i64.wrap (v13.2.1 + 1)),(T.Form.mk (T.Rx.mk 0 ([] : Bytes) false (⟨true,([] : List T.Row)⟩ : (Sl T.Row)) 0 0 false (⟨true,([] : List T.Rx)⟩ : (Sl T.Rx))) (⟨true,([] : List T.Fmt)⟩ : (Sl T.Fmt)) false false),v7.2,v10.1,(T.Form.mk v10.1 v13.1 false false)) >>= fun v16 =>
      match v16 with
      | .inl y17 =>
       some (y17.2.2.2.1,y17.1,y17.2.1)
      | .inr y18 =>
       if (decide (y18.1 ≥ (s.length : Int))) then
        some ((T.Form.mk (T.Rx.mk 0 ([] : Bytes) false (⟨true,([] : List T.Row)⟩ : (Sl T.Row)) 0 0 false (⟨true,([] : List T.Rx)⟩ : (Sl T.Rx))) (⟨true,([] : List T.Fmt)⟩ : (Sl T.Fmt)) false false),0,false)
       else
        some (y18.2,y18.1,true)
def q44 : (Int × Bytes × (List T.qc) × (List Int) × (List Bytes) × (List UInt8)) → Option ((Int × (List Bytes) × (List UInt8)))
 | (at_,r_,r1_,r2_,l,text) =>
  if (decide (at_ < (r_.length : Int))) then
   qd r_ at_ >>= fun b3 =>
   if ((b3.toNat : Int) != 124) then
    if ((b3.toNat : Int) == 44) then
     if qj (l.length + 1) 16 = true then
      q44 ((IntKind.i64.wrap (at_ + 1)),r_,r1_,r2_,(l ++ [text]),([] : List UInt8))
     else none
    else
     q7w r_ at_ true >>= fun v8 =>
     if v8 then
      qd r_ (IntKind.i64.wrap (at_ + 1)) >>= fun b11 =>
      if qj (text.length + 1) 1 = true then
       q44 ((IntKind.i64.wrap ((IntKind.i64.wrap (at_ + 1)) + 1)),r_,r1_,r2_,l,(text ++ [b11]))
      else none
     else
      if qj (text.length + 1) 1 = true then
       q44 ((IntKind.i64.wrap (at_ + 1)),r_,r1_,r2_,l,(text ++ [b3]))
      else none
   else
    some (at_,l,text)
  else
   some (at_,l,text)
 partial_fixpoint
def qbi (at_ : Int) (b : Bytes) (r_ : (List T.qc)) (r_2 : (List Int)) : Option (((Sl Bytes) × Int)) :=
 q44 (at_,b,r_,r_2,([] : List Bytes),([] : List UInt8)) >>= fun v2 =>
 if (decide (v2.1 ≥ (b.length : Int))) then
  some ((⟨true,([] : List Bytes)⟩ : Sl Bytes),(-1))
 else
  if qj (v2.2.1.length + 1) 16 = true then
   some ((⟨false,(v2.2.1 ++ [v2.2.2])⟩ : Sl Bytes),v2.1)
  else none
def qav (at_ : Int) (b : Bytes) (r_ : (List T.qc)) (r_2 : (List Int)) : Option ((T.qc × Int × Bool)) :=
 q9e (IntKind.i64.wrap (at_ + 1)) b r_ r_2 >>= fun v2 =>
 if v2.2.2 then
  some (v2.1,v2.2.1,true)
 else
 if (decide ((IntKind.i64.wrap (at_ + 1)) ≥ (b.length : Int))) then
  some ((T.qc.mk 0 ([] : Bytes) 0 false false (T.Form.mk (T.Rx.mk 0 ([] : Bytes) false (⟨true,([] : List T.Row)⟩ : (Sl T.Row)) 0 0 false (⟨true,([] : List T.Rx)⟩ : (Sl T.Rx))) (⟨true,([] : List T.Fmt)⟩ : (Sl T.Fmt)) false false) (⟨true,([] : List Bytes)⟩ : (Sl Bytes)) (⟨true,([] : List T.qc)⟩ : (Sl T.qc))),0,false)
 else
  qd b (IntKind.i64.wrap (at_ + 1)) >>= fun b6 =>
  if ((b6.toNat : Int) != 123) then
   some ((T.qc.mk 0 ([] : Bytes) 0 false false (T.Form.mk (T.Rx.mk 0 ([] : Bytes) false (⟨true,([] : List T.Row)⟩ : (Sl T.Row)) 0 0 false (⟨true,([] : List T.Rx)⟩ : (Sl T.Rx))) (⟨true,([] : List T.Fmt)⟩ : (Sl T.Fmt)) false false) (⟨true,([] : List Bytes)⟩ : (Sl Bytes)) (⟨true,([] : List T.qc)⟩ : (Sl T.qc))),0,false)
  else
   q9e (IntKind.i64.wrap (at_ + 2)) b r_ r_2 >>= fun v9 =>
   if ((!v9.2.2) || (decide (v9.2.1 ≥ (b.length : Int)))) then
    some ((T.qc.mk 0 ([] : Bytes) 0 false false (T.Form.mk (T.Rx.mk 0 ([] : Bytes) false (⟨true,([] : List T.Row)⟩ : (Sl T.Row)) 0 0 false (⟨true,([] : List T.Rx)⟩ : (Sl T.Rx))) (⟨true,([] : List T.Fmt)⟩ : (Sl T.Fmt)) false false) (⟨true,([] : List Bytes)⟩ : (Sl Bytes)) (⟨true,([] : List T.qc)⟩ : (Sl T.qc))),0,false)
   else
    qd b v9.2.1 >>= fun b13 =>
    if ((b13.toNat : Int) == 125) then
     some (v9.1,(IntKind.i64.wrap (v9.2.1 + 1)),true)
    else
    if ((b13.toNat : Int) == 58) then
     q8n (IntKind.i64.wrap (v9.2.1 + 1)) true b r_ r_2 >>= fun v17 =>
     some ((T.qc.mk v9.1.kind v9.1.text v9.1.n true v9.1.turned v9.1.form v9.1.opts v17.1),(IntKind.i64.wrap (v17.2 + 1)),(decide (v17.2 ≥ 0)))
    else
    if ((b13.toNat : Int) == 47) then
     qbd b v9.2.1 >>= fun v20 =>
     some ((T.qc.mk v9.1.kind v9.1.text v9.1.n v9.1.has true v20.1 v9.1.opts v9.1.kids),(IntKind.i64.wrap (v20.2.1 + 1)),v20.2.2)
    else
    if (((b13.toNat : Int) == 124) && (v9.1.kind == 1)) then
     qbi (IntKind.i64.wrap (v9.2.1 + 1)) b r_ r_2 >>= fun v24 =>
     if ((decide (v24.2 ≥ 0)) && (decide ((IntKind.i64.wrap (v24.2 + 1)) < (b.length : Int)))) then
      qd b (IntKind.i64.wrap (v24.2 + 1)) >>= fun b28 =>
      some ((T.qc.mk 2 v9.1.text v9.1.n v9.1.has v9.1.turned v9.1.form v24.1 v9.1.kids),(IntKind.i64.wrap (v24.2 + 2)),((b28.toNat : Int) == 125))
     else
      some ((T.qc.mk 2 v9.1.text v9.1.n v9.1.has v9.1.turned v9.1.form v24.1 v9.1.kids),(IntKind.i64.wrap (v24.2 + 2)),false)
    else
     some ((T.qc.mk 0 ([] : Bytes) 0 false false (T.Form.mk (T.Rx.mk 0 ([] : Bytes) false (⟨true,([] : List T.Row)⟩ : (Sl T.Row)) 0 0 false (⟨true,([] : List T.Rx)⟩ : (Sl T.Rx))) (⟨true,([] : List T.Fmt)⟩ : (Sl T.Fmt)) false false) (⟨true,([] : List Bytes)⟩ : (Sl Bytes)) (⟨true,([] : List T.qc)⟩ : (Sl T.qc))),0,false)
def q3t : (Bytes × Int × (List T.qc) × (List Int) × Bytes) → Option (((List T.qc) × (List Int)))
 | (s,at_,r0_,r1_,r_) =>
  if (decide (at_ ≥ 0)) then
   qd s at_ >>= fun b3 =>
   if ((b3.toNat : Int) == 36) then
    qav at_ r_ r0_ r1_ >>= fun v6 =>
    if v6.2.2 then
     qd r0_ at_ >>= fun x9 =>
     qd r1_ at_ >>= fun x11 =>
     q3t (s,(IntKind.i64.wrap (at_ - 1)),(r0_.set at_.toNat v6.1),(r1_.set at_.toNat v6.2.1),r_)
    else
     q3t (s,(IntKind.i64.wrap (at_ - 1)),r0_,r1_,r_)
   else
    q3t (s,(IntKind.i64.wrap (at_ - 1)),r0_,r1_,r_)
  else
   some (r0_,r1_)
 partial_fixpoint
mutual
def q5k (l : (Sl T.qc)) : Option ((Int)) :=
  q3c (l,0,0) >>= fun v2 =>
  some v2
 partial_fixpoint
def q3c : ((Sl T.qc) × Int × Int) → Option ((Int))
 | (l,n,i) =>
  if (decide (i < (l.l.length : Int))) then
   qd l.l i >>= fun x3 =>
   q5k x3.kids >>= fun v5 =>
   if x3.has then
    q3c (l,(if (IntKind.i64.wrap (v5 + 1)) > n then (IntKind.i64.wrap (v5 + 1)) else n),(IntKind.i64.wrap (i + 1)))
   else
    q3c (l,(if v5 > n then v5 else n),(IntKind.i64.wrap (i + 1)))
  else
   some n
 partial_fixpoint
end
def qbx (s : Bytes) : Option (((Sl T.qc) × Int)) :=
 if (decide ((s.length : Int) > 8192)) then
  some ((⟨true,([] : List T.qc)⟩ : Sl T.qc),4)
 else
  if 0 ≤ (s.length : Int) then
   if qj (s.length : Int).toNat 224 = true then
    if 0 ≤ (s.length : Int) then
     if qj (s.length : Int).toNat 8 = true then
      q3t (s,(IntKind.i64.wrap ((s.length : Int) - 1)),(List.replicate (s.length : Int).toNat (T.qc.mk 0 ([] : Bytes) 0 false false (T.Form.mk (T.Rx.mk 0 ([] : Bytes) false (⟨true,[]⟩ : (Sl T.Row)) 0 0 false (⟨true,[]⟩ : (Sl T.Rx))) (⟨true,[]⟩ : (Sl T.Fmt)) false false) (⟨true,[]⟩ : (Sl Bytes)) (⟨true,[]⟩ : (Sl T.qc)))),(List.replicate (s.length : Int).toNat 0),s) >>= fun v7 =>
      q8n 0 false s v7.1 v7.2 >>= fun v9 =>
      q5k v9.1 >>= fun v11 =>
      if (decide (v11 > 32)) then
       some ((⟨true,([] : List T.qc)⟩ : Sl T.qc),8)
      else
       some (v9.1,0)
     else none
    else none
   else none
  else none
def q82 : (Int × T.Rx × T.Rx) → Option (((Bool) ⊕ (Unit)))
 | (i,a,b) =>
  if (decide (i < (a.rows.l.length : Int))) then
   qd a.rows.l i >>= fun x3 =>
   qd b.rows.l i >>= fun x5 =>
   if (!(x3.frm == x5.frm && (x3.to == x5.to))) then
    some (.inl false)
   else
    q82 ((IntKind.i64.wrap (i + 1)),a,b)
  else
   some (.inr ())
 partial_fixpoint
mutual
def q6o : (T.Rx × T.Rx) → Option ((Bool))
 | (a,b) =>
  if ((a.kind != b.kind) || ((!(a.char == b.char)) || ((!(a.not == b.not)) || ((a.min != b.min) || ((a.max != b.max) || ((!(a.lazy == b.lazy)) || (((a.rows.l.length : Int) != (b.rows.l.length : Int)) || ((a.kids.l.length : Int) != (b.kids.l.length : Int))))))))) then
   some false
  else
   q82 (0,a,b) >>= fun v10 =>
   match v10 with
   | .inl y11 =>
    some y11
   | .inr y12 =>
    q8t (0,a,b) >>= fun v14 =>
    match v14 with
    | .inl y15 =>
     some y15
    | .inr y16 =>
     some true
 partial_fixpoint
def q8t : (Int × T.Rx × T.Rx) → Option (((Bool) ⊕ (Unit)))
 | (i,a,b) =>
  if (decide (i < (a.kids.l.length : Int))) then
   qd a.kids.l i >>= fun x3 =>
   qd b.kids.l i >>= fun x5 =>
   q6o (x3,x5) >>= fun v7 =>
   if (!v7) then
    some (.inl false)
   else
    q8t ((IntKind.i64.wrap (i + 1)),a,b)
  else
   some (.inr ())
 partial_fixpoint
end
def q96 : (Int × T.Form × T.Form) → Option (((Bool) ⊕ (Unit)))
 | (i,a,b) =>
  if (decide (i < (a.fmts.l.length : Int))) then
   qd a.fmts.l i >>= fun x3 =>
   qd b.fmts.l i >>= fun x5 =>
   if (!(x3.kind == x5.kind && (x3.n == x5.n && (x3.cas == x5.cas && (x3.thn == x5.thn && (x3.els == x5.els)))))) then
    some (.inl false)
   else
    q96 ((IntKind.i64.wrap (i + 1)),a,b)
  else
   some (.inr ())
 partial_fixpoint
def q79 (a : T.Form) (b : T.Form) : Option ((Bool)) :=
 q6o (a.rx,b.rx) >>= fun v2 =>
 if ((!v2) || ((!(a.fold == b.fold)) || ((!(a.all == b.all)) || ((a.fmts.l.length : Int) != (b.fmts.l.length : Int))))) then
  some false
 else
  q96 (0,a,b) >>= fun v8 =>
  match v8 with
  | .inl y9 =>
   some y9
  | .inr y10 =>
   some true
mutual
def q5d (x : T.Rx) : Option ((Int)) :=
  q4u (1,0,x) >>= fun v2 =>
  some v2
 partial_fixpoint
def q4u : (Int × Int × T.Rx) → Option ((Int))
 | (n,i,x) =>
  if (decide (i < (x.kids.l.length : Int))) then
   qd x.kids.l i >>= fun x3 =>
   q5d x3 >>= fun v5 =>
   q4u ((IntKind.i64.wrap (n + v5)),(IntKind.i64.wrap (i + 1)),x)
  else
   some n
 partial_fixpoint
end
mutual
def q4e (x : T.Rx) : Option ((Int)) :=
  q61 (0,0,x) >>= fun v2 =>
  if ((x.kind == 5) || (x.kind == 6)) then
   some (IntKind.i64.wrap (v2 + 1))
  else
   some v2
 partial_fixpoint
def q61 : (Int × Int × T.Rx) → Option ((Int))
 | (n,i,x) =>
  if (decide (i < (x.kids.l.length : Int))) then
   qd x.kids.l i >>= fun x3 =>
   q4e x3 >>= fun v5 =>
   q61 ((if v5 > n then v5 else n),(IntKind.i64.wrap (i + 1)),x)
  else
   some n
 partial_fixpoint
end
def q4o : (Int × Int × T.Rx) → Option (((Bool) ⊕ (Unit)))
 | (n,i,x) =>
  if (decide (i < n)) then
   qd x.kids.l i >>= fun x3 =>
   if (x3.kind == 0) then
    some (.inl false)
   else
   if (x3.kind == 1) then
    some (.inl false)
   else
    q4o (n,(IntKind.i64.wrap (i + 1)),x)
  else
   some (.inr ())
 partial_fixpoint
def q1t (x : T.Rx) : Option ((Bool)) :=
 if ((x.char == ([] : Bytes)) && ((!x.not) && (((x.rows.l.length : Int) == 0) && ((x.min == 0) && (x.max == 0))))) then
  some (!x.lazy)
 else
  some false
def q57 : (Int × Int × T.Rx) → Option (((Bool) ⊕ (Unit)))
 | (n,i,x) =>
  if (decide (i < n)) then
   qd x.kids.l i >>= fun x3 =>
   if (x3.kind == 1) then
    some (.inl false)
   else
    q57 (n,(IntKind.i64.wrap (i + 1)),x)
  else
   some (.inr ())
 partial_fixpoint
def q3b : ((Sl T.Row) × Int) → Option (((Bool) ⊕ (Unit)))
 | (rows,i) =>
  if (decide (i < (rows.l.length : Int))) then
   qd rows.l i >>= fun x3 =>
   mq x3.frm >>= fun v5 =>
   if (!v5) then
    some (.inl false)
   else
    mq x3.to >>= fun v8 =>
    if ((!v8) || (!(j6 x3.frm x3.to || x3.frm == x3.to))) then
     some (.inl false)
    else
    if (decide (i > 0)) then
     qd rows.l (IntKind.i64.wrap (i - 1)) >>= fun x13 =>
     if (j6 x3.frm x13.to || x3.frm == x13.to) then
      some (.inl false)
     else
      q3b (rows,(IntKind.i64.wrap (i + 1)))
    else
     q3b (rows,(IntKind.i64.wrap (i + 1)))
  else
   some (.inr ())
 partial_fixpoint
def qb5 (rows : (Sl T.Row)) : Option ((Bool)) :=
 q3b (rows,0) >>= fun v2 =>
 match v2 with
 | .inl y3 =>
  some y3
 | .inr y4 =>
  some true
def qbr (x : T.Rx) : Option ((Bool)) :=
 if (((x.kids.l.length : Int) != 1) || ((decide (x.min < 0)) || ((decide (x.min > 255)) || ((x.max != (-1)) && ((decide (x.max < x.min)) || (decide (x.max > 255))))))) then
  some false
 else
  qd x.kids.l 0 >>= fun x17 =>
  q1t (T.Rx.mk x.kind x.char x.not x.rows 0 0 false x.kids) >>= fun v19 =>
  if v19 then
   if ((x17.kind == 2) || ((x17.kind == 3) || ((x17.kind == 4) || (x17.kind == 5)))) then
    some true
   else
    some (x17.kind == 6)
  else
   some false
mutual
def q5c (x : T.Rx) : Option ((Bool)) :=
  q4q ((x.kids.l.length : Int),0,x) >>= fun v2 =>
  match v2 with
  | .inl y3 =>
   some y3
  | .inr y4 =>
   if (x.kind == 0) then
    q4o ((x.kids.l.length : Int),0,x) >>= fun v7 =>
    match v7 with
    | .inl y8 =>
     some y8
    | .inr y9 =>
     q1t x >>= fun v11 =>
     if v11 then
      some ((x.kids.l.length : Int) != 1)
     else
      some false
   else
   if (x.kind == 1) then
    q57 ((x.kids.l.length : Int),0,x) >>= fun v15 =>
    match v15 with
    | .inl y16 =>
     some y16
    | .inr y17 =>
     q1t x >>= fun v19 =>
     if v19 then
      some (decide ((x.kids.l.length : Int) ≥ 2))
     else
      some false
   else
   if (x.kind == 2) then
    q1t (T.Rx.mk x.kind ([] : Bytes) x.not x.rows x.min x.max x.lazy x.kids) >>= fun v23 =>
    if (v23 && ((x.kids.l.length : Int) == 0)) then
     mq x.char >>= fun v27 =>
     some v27
    else
     some false
   else
   if ((x.kind == 3) || ((x.kind == 8) || ((x.kind == 9) || ((x.kind == 10) || (x.kind == 11))))) then
    q1t x >>= fun v30 =>
    if v30 then
     some ((x.kids.l.length : Int) == 0)
    else
     some false
   else
   if (x.kind == 4) then
    q1t (T.Rx.mk x.kind x.char false (⟨true,([] : List T.Row)⟩ : (Sl T.Row)) x.min x.max x.lazy x.kids) >>= fun v50 =>
    if (v50 && ((x.kids.l.length : Int) == 0)) then
     qb5 x.rows >>= fun v54 =>
     some v54
    else
     some false
   else
   if ((x.kind == 5) || (x.kind == 6)) then
    q1t x >>= fun v57 =>
    if v57 then
     some ((x.kids.l.length : Int) == 1)
    else
     some false
   else
   if (x.kind == 7) then
    qbr x >>= fun v65 =>
    some v65
   else
    some false
 partial_fixpoint
def q4q : (Int × Int × T.Rx) → Option (((Bool) ⊕ (Unit)))
 | (n,i,x) =>
  if (decide (i < n)) then
   qd x.kids.l i >>= fun x3 =>
   q5c x3 >>= fun v5 =>
   if (!v5) then
    some (.inl false)
   else
    q4q (n,(IntKind.i64.wrap (i + 1)),x)
  else
   some (.inr ())
 partial_fixpoint
end
def q6r (x : T.Rx) : Option ((Bool)) :=
 q5d x >>= fun v2 =>
 if (decide (v2 ≤ 512)) then
  q4e x >>= fun v5 =>
  if (decide (v5 ≤ 16)) then
   q5c x >>= fun v8 =>
   some v8
  else
   some false
 else
  some false
def ug : ((Sl T.Fmt) × Int) → Option (((Bool) ⊕ (Unit)))
 | (fs,i) =>
  if (decide (i < (fs.l.length : Int))) then
   qd fs.l i >>= fun x3 =>
   if (decide (x3.n ≥ 0)) then
    if (x3.kind == 0) then
     if ((x3.n == 0) && ((x3.cas == 0) && ((x3.els == ([] : Bytes)) && (!(x3.thn == ([] : Bytes)))))) then
      if (i == 0) then
       ug (fs,(IntKind.i64.wrap (i + 1)))
      else
       qd fs.l (IntKind.i64.wrap (i - 1)) >>= fun x12 =>
       if (!(x12.kind != 0)) then
        some (.inl false)
       else
        ug (fs,(IntKind.i64.wrap (i + 1)))
     else
      some (.inl false)
    else
    if (x3.kind == 1) then
     if ((decide (x3.n ≤ 9999)) && ((x3.cas == 0) && (x3.thn == ([] : Bytes)))) then
      if (!(x3.els == ([] : Bytes))) then
       some (.inl false)
      else
       ug (fs,(IntKind.i64.wrap (i + 1)))
     else
      some (.inl false)
    else
    if (x3.kind == 2) then
     if (decide (x3.n ≤ 9999)) then
      q9a x3.cas >>= fun v22 =>
      if ((!(v22 == ([] : Bytes))) && (x3.thn == ([] : Bytes))) then
       if (!(x3.els == ([] : Bytes))) then
        some (.inl false)
       else
        ug (fs,(IntKind.i64.wrap (i + 1)))
      else
       some (.inl false)
     else
      some (.inl false)
    else
    if (x3.kind == 3) then
     if ((decide (x3.n ≤ 9999)) && (x3.cas == 0)) then
      if (!(x3.els == ([] : Bytes))) then
       some (.inl false)
      else
       ug (fs,(IntKind.i64.wrap (i + 1)))
     else
      some (.inl false)
    else
    if (x3.kind == 4) then
     if ((decide (x3.n ≤ 9999)) && (x3.cas == 0)) then
      if (!(x3.thn == ([] : Bytes))) then
       some (.inl false)
      else
       ug (fs,(IntKind.i64.wrap (i + 1)))
     else
      some (.inl false)
    else
    if ((x3.kind == 5) && (decide (x3.n ≤ 9999))) then
     if (!(x3.cas == 0)) then
      some (.inl false)
     else
      ug (fs,(IntKind.i64.wrap (i + 1)))
    else
     some (.inl false)
   else
   if (x3.kind == 0) then
    if ((x3.n == 0) && ((x3.cas == 0) && ((x3.els == ([] : Bytes)) && (!(x3.thn == ([] : Bytes)))))) then
     if (i == 0) then
      ug (fs,(IntKind.i64.wrap (i + 1)))
     else
      qd fs.l (IntKind.i64.wrap (i - 1)) >>= fun x44 =>
      if (!(x44.kind != 0)) then
       some (.inl false)
      else
       ug (fs,(IntKind.i64.wrap (i + 1)))
    else
     some (.inl false)
   else
   if ((x3.kind == 1) || ((x3.kind == 2) || ((x3.kind == 3) || ((x3.kind == 4) || (x3.kind == 5))))) then
    some (.inl false)
   else
    some (.inl false)
  else
   some (.inr ())
 partial_fixpoint
def q85 (fs : (Sl T.Fmt)) : Option ((Bool)) :=
 ug (fs,0) >>= fun v2 =>
 match v2 with
 | .inl y3 =>
  some y3
 | .inr y4 =>
  some true
def q8m (f : T.Form) : Option ((Bool)) :=
 q6r f.rx >>= fun v2 =>
 if v2 then
  q85 f.fmts >>= fun v5 =>
  some v5
 else
  some false
mutual
def q2d (l : (Sl T.qc)) : Option ((Bool)) :=
  ku (l,0) >>= fun v2 =>
  match v2 with
  | .inl y3 =>
   some y3
  | .inr y4 =>
   some true
 partial_fixpoint
def ku : ((Sl T.qc) × Int) → Option (((Bool) ⊕ (Unit)))
 | (l,i) =>
  if (decide (i < (l.l.length : Int))) then
   qd l.l i >>= fun x3 =>
   if ((!x3.has) && (!x3.turned)) then
    q79 x3.form (T.Form.mk (T.Rx.mk 0 ([] : Bytes) false (⟨true,([] : List T.Row)⟩ : (Sl T.Row)) 0 0 false (⟨true,([] : List T.Rx)⟩ : (Sl T.Rx))) (⟨true,([] : List T.Fmt)⟩ : (Sl T.Fmt)) false false) >>= fun v7 =>
    if v7 then
     if (decide (x3.n ≥ 0)) then
      if (x3.kind == 0) then
       if (((x3.kids.l.length : Int) == 0) && ((x3.n == 0) && (((x3.opts.l.length : Int) == 0) && (!(x3.text == ([] : Bytes)))))) then
        if (i == 0) then
         ku (l,(IntKind.i64.wrap (i + 1)))
        else
         qd l.l (IntKind.i64.wrap (i - 1)) >>= fun x17 =>
         if (!(x17.kind != 0)) then
          some (.inl false)
         else
          ku (l,(IntKind.i64.wrap (i + 1)))
       else
        some (.inl false)
      else
      if (x3.kind == 1) then
       if ((decide (x3.n ≤ 9999)) && (x3.text == ([] : Bytes))) then
        nz x3 >>= fun v23 =>
        if (!v23) then
         some (.inl false)
        else
         ku (l,(IntKind.i64.wrap (i + 1)))
       else
        some (.inl false)
      else
      if (x3.kind == 2) then
       if ((decide (x3.n ≤ 9999)) && ((x3.text == ([] : Bytes)) && ((x3.kids.l.length : Int) == 0))) then
        if (!(decide ((x3.opts.l.length : Int) > 0))) then
         some (.inl false)
        else
         ku (l,(IntKind.i64.wrap (i + 1)))
       else
        some (.inl false)
      else
      if ((x3.kind == 3) && (x3.n == 0)) then
       ng x3.text >>= fun v33 =>
       if v33 then
        nz x3 >>= fun v36 =>
        if (!v36) then
         some (.inl false)
        else
         ku (l,(IntKind.i64.wrap (i + 1)))
       else
        some (.inl false)
      else
       some (.inl false)
     else
     if (x3.kind == 0) then
      if (((x3.kids.l.length : Int) == 0) && ((x3.n == 0) && (((x3.opts.l.length : Int) == 0) && (!(x3.text == ([] : Bytes)))))) then
       if (i == 0) then
        ku (l,(IntKind.i64.wrap (i + 1)))
       else
        qd l.l (IntKind.i64.wrap (i - 1)) >>= fun x45 =>
        if (!(x45.kind != 0)) then
         some (.inl false)
        else
         ku (l,(IntKind.i64.wrap (i + 1)))
      else
       some (.inl false)
     else
     if ((x3.kind == 1) || (x3.kind == 2)) then
      some (.inl false)
     else
     if ((x3.kind == 3) && (x3.n == 0)) then
      ng x3.text >>= fun v52 =>
      if v52 then
       nz x3 >>= fun v55 =>
       if (!v55) then
        some (.inl false)
       else
        ku (l,(IntKind.i64.wrap (i + 1)))
      else
       some (.inl false)
     else
      some (.inl false)
    else
    if (decide (x3.n ≥ 0)) then
     if (x3.kind == 0) then
      some (.inl false)
     else
     if (x3.kind == 1) then
      if ((decide (x3.n ≤ 9999)) && (x3.text == ([] : Bytes))) then
       nz x3 >>= fun v63 =>
       if (!v63) then
        some (.inl false)
       else
        ku (l,(IntKind.i64.wrap (i + 1)))
      else
       some (.inl false)
     else
     if (x3.kind == 2) then
      if ((decide (x3.n ≤ 9999)) && (x3.text == ([] : Bytes))) then
       some (.inl false)
      else
       some (.inl false)
     else
     if ((x3.kind == 3) && (x3.n == 0)) then
      ng x3.text >>= fun v71 =>
      if v71 then
       nz x3 >>= fun v74 =>
       if (!v74) then
        some (.inl false)
       else
        ku (l,(IntKind.i64.wrap (i + 1)))
      else
       some (.inl false)
     else
      some (.inl false)
    else
    if ((x3.kind == 0) || ((x3.kind == 1) || (x3.kind == 2))) then
     some (.inl false)
    else
    if ((x3.kind == 3) && (x3.n == 0)) then
     ng x3.text >>= fun v82 =>
     if v82 then
      nz x3 >>= fun v85 =>
      if (!v85) then
       some (.inl false)
      else
       ku (l,(IntKind.i64.wrap (i + 1)))
     else
      some (.inl false)
    else
     some (.inl false)
   else
   if (decide (x3.n ≥ 0)) then
    if (x3.kind == 0) then
     some (.inl false)
    else
    if (x3.kind == 1) then
     if ((decide (x3.n ≤ 9999)) && (x3.text == ([] : Bytes))) then
      nz x3 >>= fun v123 =>
      if (!v123) then
       some (.inl false)
      else
       ku (l,(IntKind.i64.wrap (i + 1)))
     else
      some (.inl false)
    else
    if (x3.kind == 2) then
     if ((decide (x3.n ≤ 9999)) && (x3.text == ([] : Bytes))) then
      some (.inl false)
     else
      some (.inl false)
    else
    if ((x3.kind == 3) && (x3.n == 0)) then
     ng x3.text >>= fun v131 =>
     if v131 then
      nz x3 >>= fun v134 =>
      if (!v134) then
       some (.inl false)
      else
       ku (l,(IntKind.i64.wrap (i + 1)))
     else
      some (.inl false)
    else
     some (.inl false)
   else
   if ((x3.kind == 0) || ((x3.kind == 1) || (x3.kind == 2))) then
    some (.inl false)
   else
   if ((x3.kind == 3) && (x3.n == 0)) then
    ng x3.text >>= fun v142 =>
    if v142 then
     nz x3 >>= fun v145 =>
     if (!v145) then
      some (.inl false)
     else
      ku (l,(IntKind.i64.wrap (i + 1)))
    else
     some (.inl false)
   else
    some (.inl false)
  else
   some (.inr ())
 partial_fixpoint
def nz (x : T.qc) : Option ((Bool)) :=
  if (decide ((x.opts.l.length : Int) > 0)) then
   some false
  else
  if x.has then
   if x.turned then
    some false
   else
    q79 x.form (T.Form.mk (T.Rx.mk 0 ([] : Bytes) false (⟨true,([] : List T.Row)⟩ : (Sl T.Row)) 0 0 false (⟨true,([] : List T.Rx)⟩ : (Sl T.Rx))) (⟨true,([] : List T.Fmt)⟩ : (Sl T.Fmt)) false false) >>= fun v5 =>
    if v5 then
     q2d x.kids >>= fun v8 =>
     some v8
    else
     some false
  else
  if (decide ((x.kids.l.length : Int) > 0)) then
   some false
  else
  if x.turned then
   q8m x.form >>= fun v12 =>
   some v12
  else
   q79 x.form (T.Form.mk (T.Rx.mk 0 ([] : Bytes) false (⟨true,([] : List T.Row)⟩ : (Sl T.Row)) 0 0 false (⟨true,([] : List T.Rx)⟩ : (Sl T.Rx))) (⟨true,([] : List T.Fmt)⟩ : (Sl T.Fmt)) false false) >>= fun v14 =>
   if v14 then
    q2d x.kids >>= fun v17 =>
    some v17
   else
    some false
 partial_fixpoint
end
def qcr (l : (Sl T.qc)) : Option ((Bool)) :=
 q5k l >>= fun v2 =>
 if (decide (v2 ≤ 32)) then
  q2d l >>= fun v5 =>
  some v5
 else
  some false
def um : (Bytes × Bytes × Bytes × Bool × Int × (List UInt8)) → Option (((List UInt8)))
 | (s,lead,unit,behind,i,b) =>
  if (decide (i < (s.length : Int))) then
   if behind then
    qd s i >>= fun b4 =>
    if ((b4.toNat : Int) == 9) then
     if (!(unit == ([] : Bytes))) then
      if (b.isEmpty && unit.isEmpty) then
       um (s,lead,unit,behind,(IntKind.i64.wrap (i + 1)),b)
      else
       if qj (b.length + unit.length) 1 = true then
        um (s,lead,unit,behind,(IntKind.i64.wrap (i + 1)),(b ++ unit))
       else none
     else
      if qj (b.length + 1) 1 = true then
       if ((b4.toNat : Int) == 10) then
        if qj ((b ++ [b4]).length + lead.length) 1 = true then
         um (s,lead,unit,true,(IntKind.i64.wrap (i + 1)),((b ++ [b4]) ++ lead))
        else none
       else
        um (s,lead,unit,true,(IntKind.i64.wrap (i + 1)),(b ++ [b4]))
      else none
    else
     if qj (b.length + 1) 1 = true then
      if ((b4.toNat : Int) == 10) then
       if qj ((b ++ [b4]).length + lead.length) 1 = true then
        um (s,lead,unit,((b4.toNat : Int) == 10),(IntKind.i64.wrap (i + 1)),((b ++ [b4]) ++ lead))
       else none
      else
       um (s,lead,unit,((b4.toNat : Int) == 10),(IntKind.i64.wrap (i + 1)),(b ++ [b4]))
     else none
   else
    qd s i >>= fun b16 =>
    if qj (b.length + 1) 1 = true then
     if ((b16.toNat : Int) == 10) then
      if qj ((b ++ [b16]).length + lead.length) 1 = true then
       um (s,lead,unit,((b16.toNat : Int) == 10),(IntKind.i64.wrap (i + 1)),((b ++ [b16]) ++ lead))
      else none
     else
      um (s,lead,unit,((b16.toNat : Int) == 10),(IntKind.i64.wrap (i + 1)),(b ++ [b16]))
    else none
  else
   some b
 partial_fixpoint
def q4k (s : Bytes) (lead : Bytes) (unit : Bytes) : Option ((Bytes)) :=
 um (s,lead,unit,false,0,([] : List UInt8)) >>= fun v2 =>
 some v2
def uy (p_ : T.qf) (b : (Sl T.qi)) (b_2 : Bytes) (b_3 : Bytes) (r_ : (List T.qf)) (r_2 : (List Int)) (r_3 : (List Bytes)) : Option (((List T.qf))) :=
 if qj (r_.length + 1) 216 = true then
  some (r_ ++ [(T.qf.mk p_.kind p_.text p_.n p_.def_ p_.first p_.turned p_.form p_.opts p_.up (IntKind.i64.wrap ((r_.length : Int) + 1)))])
 else none
def q5o : (Bytes × (Sl T.qi) × Int) → Option (((Bytes × Bool) ⊕ (Unit)))
 | (name,env,i) =>
  if (decide (i < (env.l.length : Int))) then
   qd env.l i >>= fun x3 =>
   if (x3.name == name) then
    some (.inl (x3.value,true))
   else
    q5o (name,env,(IntKind.i64.wrap (i + 1)))
  else
   some (.inr ())
 partial_fixpoint
def q7z (name : Bytes) (env : (Sl T.qi)) : Option ((Bytes × Bool)) :=
 q5o (name,env,0) >>= fun v2 =>
 match v2 with
 | .inl y3 =>
  some (y3.1,y3.2)
 | .inr y4 =>
  some (([] : Bytes),false)
def qec : Option (((Sl Bytes))) :=
 some (⟨false,[([84,77,95,83,69,76,69,67,84,69,68,95,84,69,88,84] : Bytes),([84,77,95,67,85,82,82,69,78,84,95,76,73,78,69] : Bytes),([84,77,95,67,85,82,82,69,78,84,95,87,79,82,68] : Bytes),([84,77,95,76,73,78,69,95,73,78,68,69,88] : Bytes),([84,77,95,76,73,78,69,95,78,85,77,66,69,82] : Bytes),([84,77,95,70,73,76,69,78,65,77,69] : Bytes),([84,77,95,70,73,76,69,78,65,77,69,95,66,65,83,69] : Bytes),([84,77,95,68,73,82,69,67,84,79,82,89] : Bytes),([84,77,95,70,73,76,69,80,65,84,72] : Bytes),([67,76,73,80,66,79,65,82,68] : Bytes),([87,79,82,75,83,80,65,67,69,95,78,65,77,69] : Bytes),([82,65,78,68,79,77] : Bytes),([82,65,78,68,79,77,95,72,69,88] : Bytes),([85,85,73,68] : Bytes),([67,85,82,82,69,78,84,95,89,69,65,82] : Bytes),([67,85,82,82,69,78,84,95,77,79,78,84,72] : Bytes),([67,85,82,82,69,78,84,95,68,65,84,69] : Bytes),([67,85,82,82,69,78,84,95,72,79,85,82] : Bytes),([67,85,82,82,69,78,84,95,77,73,78,85,84,69] : Bytes),([67,85,82,82,69,78,84,95,83,69,67,79,78,68] : Bytes),([73,78,68,69,78,84] : Bytes)]⟩ : Sl Bytes)
def q5r : (Bytes × (Sl Bytes) × Int) → Option (((Bool) ⊕ (Unit)))
 | (name,l,i) =>
  if (decide (i < (l.l.length : Int))) then
   qd l.l i >>= fun x3 =>
   if (x3 == name) then
    some (.inl true)
   else
    q5r (name,l,(IntKind.i64.wrap (i + 1)))
  else
   some (.inr ())
 partial_fixpoint
def q94 (name : Bytes) : Option ((Bool)) :=
 qec >>= fun v2 =>
 q5r (name,v2,0) >>= fun v4 =>
 match v4 with
 | .inl y5 =>
  some y5
 | .inr y6 =>
  some false
def q5l : (Bytes × Int × (Sl T.qi) × Bytes × Bytes × (List T.qf) × (List Int) × (List Bytes)) → Option (((Int) ⊕ (Unit)))
 | (name,i,w,w2,w3,r1_,r2_,r3_) =>
  if (decide (i < (r3_.length : Int))) then
   qd r3_ i >>= fun x3 =>
   if (x3 == name) then
    some (.inl (IntKind.i64.wrap ((-1) - i)))
   else
    q5l (name,(IntKind.i64.wrap (i + 1)),w,w2,w3,r1_,r2_,r3_)
  else
   some (.inr ())
 partial_fixpoint
def q9t (name : Bytes) (b : (Sl T.qi)) (b_2 : Bytes) (b_3 : Bytes) (r_ : (List T.qf)) (r_2 : (List Int)) (r_3 : (List Bytes)) : Option ((Int × (List Bytes))) :=
 q5l (name,0,b,b_2,b_3,r_,r_2,r_3) >>= fun v2 =>
 match v2 with
 | .inl y3 =>
  some (y3,r_3)
 | .inr y4 =>
  if qj (r_3.length + 1) 16 = true then
   some ((IntKind.i64.wrap (0 - ((r_3 ++ [name]).length : Int))),(r_3 ++ [name]))
  else none
def q47 : (Int × Int × (List Int)) → Option (((Bool) ⊕ (Unit)))
 | (n,i,l) =>
  if (decide (i < (l.length : Int))) then
   qd l i >>= fun x3 =>
   if (x3 == n) then
    some (.inl true)
   else
    q47 (n,(IntKind.i64.wrap (i + 1)),l)
  else
   some (.inr ())
 partial_fixpoint
def q26 (n : Int) (r_ : (List Int)) : Option ((Bool)) :=
 q47 (n,0,r_) >>= fun v2 =>
 match v2 with
 | .inl y3 =>
  some y3
 | .inr y4 =>
  some false
def q70 : (Bool × Int × Int × (Sl T.qi) × Bytes × Bytes × (List T.qc) × (List T.qf) × (List Int) × (List Bytes) × Int × Bytes × Int × Bool × Bool × Int × Bytes × Bool × (Sl T.Row) × Int × Int × Bool × (Sl T.Rx) × (Sl T.Fmt) × Bool × Bool × (Sl Bytes) × Int × Bytes × Int × Bool × Bool × Bool × Int × Bytes × Bool × (Sl T.Row) × Int × Int × Bool × (Sl T.Rx) × (Sl T.Fmt) × Bool × Bool × Int × Int × (List Bytes)) → Option (((List Bytes)))
 | (plain,at_,i,w,w2,w3,r1_,r2_,r3_,r4_,x,x_2,x_3,x_4,x_5,x_6,x_7,x_8,x_9,x_10,x_11,x_12,x_13,x_14,x_15,x_16,x_17,p_,p_2,p_3,p_4,p_5,p_6,p_7,p_8,p_9,p_10,p_11,p_12,p_13,p_14,p_15,p_16,p_17,p_18,p_19,r7_) =>
  if (p_4 && (decide (i < (x_17.l.length : Int)))) then
   qd x_17.l i >>= fun x4 =>
   q4k x4 w2 w3 >>= fun v6 =>
   if qj (r7_.length + 1) 16 = true then
    q70 (plain,at_,(IntKind.i64.wrap (i + 1)),w,w2,w3,r1_,r2_,r3_,r4_,x,x_2,x_3,x_4,x_5,x_6,x_7,x_8,x_9,x_10,x_11,x_12,x_13,x_14,x_15,x_16,x_17,p_,p_2,p_3,p_4,p_5,p_6,p_7,p_8,p_9,p_10,p_11,p_12,p_13,p_14,p_15,p_16,p_17,p_18,p_19,(r7_ ++ [v6]))
   else none
  else
   some r7_
 partial_fixpoint
def q1b : (Bool × Int × Int × (Sl T.qi) × Bytes × Bytes × (List T.qf) × (List Int) × (List Bytes) × T.qc × Int × Bytes × Int × Bool × Bool × Bool × Int × Bytes × Bool × (Sl T.Row) × Int × Int × Bool × (Sl T.Rx) × (Sl T.Fmt) × Bool × Bool × Int × Int × (List Bytes)) → Option (((List Bytes)))
 | (plain,at_,i,w,w2,w3,r1_,r2_,r3_,x,p_,p_2,p_3,p_4,p_5,p_6,p_7,p_8,p_9,p_10,p_11,p_12,p_13,p_14,p_15,p_16,p_17,p_18,p_19,r6_) =>
  if (p_4 && (decide (i < (x.opts.l.length : Int)))) then
   qd x.opts.l i >>= fun x4 =>
   q4k x4 w2 w3 >>= fun v6 =>
   if qj (r6_.length + 1) 16 = true then
    q1b (plain,at_,(IntKind.i64.wrap (i + 1)),w,w2,w3,r1_,r2_,r3_,x,p_,p_2,p_3,p_4,p_5,p_6,p_7,p_8,p_9,p_10,p_11,p_12,p_13,p_14,p_15,p_16,p_17,p_18,p_19,(r6_ ++ [v6]))
   else none
  else
   some r6_
 partial_fixpoint
mutual
def q0n : ((Sl T.qc) × Int × (Sl T.qi) × Bytes × Bytes × (List T.qf) × (List Int) × (List Bytes)) → Option (((Sl T.qi) × Bytes × Bytes × (List T.qf) × (List Int) × (List Bytes)))
 | (l,up,b,b_2,b_3,r_,r_2,r_3) =>
  gz (l,up,0,b,b_2,b_3,r_,r_2,r_3) >>= fun v2 =>
  some (v2.1,v2.2.1,v2.2.2.1,v2.2.2.2.1,v2.2.2.2.2.1,v2.2.2.2.2.2)
 partial_fixpoint
def gz : ((Sl T.qc) × Int × Int × (Sl T.qi) × Bytes × Bytes × (List T.qf) × (List Int) × (List Bytes)) → Option (((Sl T.qi) × Bytes × Bytes × (List T.qf) × (List Int) × (List Bytes)))
 | (l,up,i,w,w2,w3,r1_,r2_,r3_) =>
  if (decide (i < (l.l.length : Int))) then
   qd l.l i >>= fun x3 =>
   if (x3.kind == 0) then
    q4k x3.text w2 w3 >>= fun v6 =>
    uy (T.qf.mk 0 v6 0 false false false (T.Form.mk (T.Rx.mk 0 ([] : Bytes) false (⟨true,([] : List T.Row)⟩ : (Sl T.Row)) 0 0 false (⟨true,([] : List T.Rx)⟩ : (Sl T.Rx))) (⟨true,([] : List T.Fmt)⟩ : (Sl T.Fmt)) false false) (⟨true,([] : List Bytes)⟩ : (Sl Bytes)) up 0) w w2 w3 r1_ r2_ r3_ >>= fun v8 =>
    gz (l,up,(IntKind.i64.wrap (i + 1)),w,w2,w3,v8,r2_,r3_)
   else
   if (x3.kind == 3) then
    q7z x3.text w >>= fun v11 =>
    if v11.2 then
     uy (T.qf.mk 2 v11.1 0 false false x3.turned x3.form (⟨true,([] : List Bytes)⟩ : (Sl Bytes)) up 0) w w2 w3 r1_ r2_ r3_ >>= fun v14 =>
     gz (l,up,(IntKind.i64.wrap (i + 1)),w,w2,w3,v14,r2_,r3_)
    else
    if x3.has then
     q0n (x3.kids,up,w,w2,w3,r1_,r2_,r3_) >>= fun v17 =>
     gz (l,up,(IntKind.i64.wrap (i + 1)),v17.1,v17.2.1,v17.2.2.1,v17.2.2.2.1,v17.2.2.2.2.1,v17.2.2.2.2.2)
    else
     q94 x3.text >>= fun v19 =>
     if (v19 || x3.turned) then
      uy (T.qf.mk 2 ([] : Bytes) 0 false false x3.turned x3.form (⟨true,([] : List Bytes)⟩ : (Sl Bytes)) up 0) w w2 w3 r1_ r2_ r3_ >>= fun v22 =>
      gz (l,up,(IntKind.i64.wrap (i + 1)),w,w2,w3,v22,r2_,r3_)
     else
      q9t x3.text w w2 w3 r1_ r2_ r3_ >>= fun v27 =>
      q8j (1,([] : Bytes),v27.1,true,false,0,([] : Bytes),false,(⟨true,([] : List T.Row)⟩ : Sl T.Row),0,0,false,(⟨true,([] : List T.Rx)⟩ : Sl T.Rx),(⟨true,([] : List T.Fmt)⟩ : Sl T.Fmt),false,false,(⟨true,([] : List Bytes)⟩ : Sl Bytes),up,true,w,w2,w3,[(T.qc.mk 0 x3.text 0 false false (T.Form.mk (T.Rx.mk 0 ([] : Bytes) false (⟨true,[]⟩ : (Sl T.Row)) 0 0 false (⟨true,[]⟩ : (Sl T.Rx))) (⟨true,[]⟩ : (Sl T.Fmt)) false false) (⟨true,[]⟩ : (Sl Bytes)) (⟨true,[]⟩ : (Sl T.qc)))],r1_,r2_,v27.2) >>= fun v29 =>
      match v29 with
      | .inl y30 =>
       gz (l,up,(IntKind.i64.wrap (i + 1)),w,w2,w3,y30.1,y30.2,v27.2)
      | .inr y31 =>
       gz (l,up,(IntKind.i64.wrap (i + 1)),y31.1,y31.2.1,y31.2.2.1,y31.2.2.2.1,y31.2.2.2.2.1,y31.2.2.2.2.2)
   else
    q8q (x3,up,false,w,w2,w3,r1_,r2_,r3_) >>= fun v33 =>
    gz (l,up,(IntKind.i64.wrap (i + 1)),v33.1,v33.2.1,v33.2.2.1,v33.2.2.2.1,v33.2.2.2.2.1,v33.2.2.2.2.2)
  else
   some (w,w2,w3,r1_,r2_,r3_)
 partial_fixpoint
def q8j : (Int × Bytes × Int × Bool × Bool × Int × Bytes × Bool × (Sl T.Row) × Int × Int × Bool × (Sl T.Rx) × (Sl T.Fmt) × Bool × Bool × (Sl Bytes) × Int × Bool × (Sl T.qi) × Bytes × Bytes × (List T.qc) × (List T.qf) × (List Int) × (List Bytes)) → Option ((((List T.qf) × (List Int)) ⊕ ((Sl T.qi) × Bytes × Bytes × (List T.qf) × (List Int) × (List Bytes))))
 | (x,x_2,x_3,x_4,x_5,x_6,x_7,x_8,x_9,x_10,x_11,x_12,x_13,x_14,x_15,x_16,x_17,up,plain,b,b_2,b_3,r_,r_2,r_3,r_4) =>
  if (x_4 || (x == 2)) then
   q26 x_3 r_3 >>= fun v3 =>
   q70 (plain,(r_2.length : Int),0,b,b_2,b_3,r_,r_2,r_3,r_4,x,x_2,x_3,x_4,x_5,x_6,x_7,x_8,x_9,x_10,x_11,x_12,x_13,x_14,x_15,x_16,x_17,1,([] : Bytes),x_3,(!v3),false,x_5,x_6,x_7,x_8,x_9,x_10,x_11,x_12,x_13,x_14,x_15,x_16,up,0,([] : List Bytes)) >>= fun v5 =>
   uy (T.qf.mk 1 ([] : Bytes) x_3 (!v3) false x_5 (T.Form.mk (T.Rx.mk x_6 x_7 x_8 x_9 x_10 x_11 x_12 x_13) x_14 x_15 x_16) (⟨v5.isEmpty,v5⟩ : (Sl Bytes)) up 0) b b_2 b_3 r_2 r_3 r_4 >>= fun v7 =>
   if (!(!v3)) then
    some (.inl (v7,r_3))
   else
    if qj (r_3.length + 1) 8 = true then
     if plain then
      qd r_ 0 >>= fun x12 =>
      uy (T.qf.mk 0 x12.text 0 false false false (T.Form.mk (T.Rx.mk 0 ([] : Bytes) false (⟨true,([] : List T.Row)⟩ : (Sl T.Row)) 0 0 false (⟨true,([] : List T.Rx)⟩ : (Sl T.Rx))) (⟨true,([] : List T.Fmt)⟩ : (Sl T.Fmt)) false false) (⟨true,([] : List Bytes)⟩ : (Sl Bytes)) (r_2.length : Int) 0) b b_2 b_3 v7 (r_3 ++ [x_3]) r_4 >>= fun v14 =>
      qd v14 (r_2.length : Int) >>= fun x16 =>
      some (.inl ((v14.set ((r_2.length : Int).toNat) (T.qf.mk x16.kind x16.text x16.n x16.def_ x16.first x16.turned x16.form x16.opts x16.up (v14.length : Int))),(r_3 ++ [x_3])))
     else
      q0n ((⟨false,r_⟩ : Sl T.qc),(r_2.length : Int),b,b_2,b_3,v7,(r_3 ++ [x_3]),r_4) >>= fun v18 =>
      qd v18.2.2.2.1 (r_2.length : Int) >>= fun x20 =>
      some (.inr (v18.1,v18.2.1,v18.2.2.1,(v18.2.2.2.1.set ((r_2.length : Int).toNat) (T.qf.mk x20.kind x20.text x20.n x20.def_ x20.first x20.turned x20.form x20.opts x20.up (v18.2.2.2.1.length : Int))),v18.2.2.2.2.1,v18.2.2.2.2.2))
    else none
  else
   q70 (plain,(r_2.length : Int),0,b,b_2,b_3,r_,r_2,r_3,r_4,x,x_2,x_3,x_4,x_5,x_6,x_7,x_8,x_9,x_10,x_11,x_12,x_13,x_14,x_15,x_16,x_17,1,([] : Bytes),x_3,false,false,x_5,x_6,x_7,x_8,x_9,x_10,x_11,x_12,x_13,x_14,x_15,x_16,up,0,([] : List Bytes)) >>= fun v42 =>
   uy (T.qf.mk 1 ([] : Bytes) x_3 false false x_5 (T.Form.mk (T.Rx.mk x_6 x_7 x_8 x_9 x_10 x_11 x_12 x_13) x_14 x_15 x_16) (⟨v42.isEmpty,v42⟩ : (Sl Bytes)) up 0) b b_2 b_3 r_2 r_3 r_4 >>= fun v44 =>
   some (.inl (v44,r_3))
 partial_fixpoint
def q8q : (T.qc × Int × Bool × (Sl T.qi) × Bytes × Bytes × (List T.qf) × (List Int) × (List Bytes)) → Option (((Sl T.qi) × Bytes × Bytes × (List T.qf) × (List Int) × (List Bytes)))
 | (x,up,plain,b,b_2,b_3,r_,r_2,r_3) =>
  if (x.has || (x.kind == 2)) then
   q26 x.n r_2 >>= fun v3 =>
   q1b (plain,(r_.length : Int),0,b,b_2,b_3,r_,r_2,r_3,x,1,([] : Bytes),x.n,(!v3),false,x.turned,x.form.rx.kind,x.form.rx.char,x.form.rx.not,x.form.rx.rows,x.form.rx.min,x.form.rx.max,x.form.rx.lazy,x.form.rx.kids,x.form.fmts,x.form.fold,x.form.all,up,0,([] : List Bytes)) >>= fun v5 =>
   uy (T.qf.mk 1 ([] : Bytes) x.n (!v3) false x.turned x.form (⟨v5.isEmpty,v5⟩ : (Sl Bytes)) up 0) b b_2 b_3 r_ r_2 r_3 >>= fun v7 =>
   if (!(!v3)) then
    some (b,b_2,b_3,v7,r_2,r_3)
   else
    if qj (r_2.length + 1) 8 = true then
     if plain then
      qd x.kids.l 0 >>= fun x12 =>
      uy (T.qf.mk 0 x12.text 0 false false false (T.Form.mk (T.Rx.mk 0 ([] : Bytes) false (⟨true,([] : List T.Row)⟩ : (Sl T.Row)) 0 0 false (⟨true,([] : List T.Rx)⟩ : (Sl T.Rx))) (⟨true,([] : List T.Fmt)⟩ : (Sl T.Fmt)) false false) (⟨true,([] : List Bytes)⟩ : (Sl Bytes)) (r_.length : Int) 0) b b_2 b_3 v7 (r_2 ++ [x.n]) r_3 >>= fun v14 =>
      qd v14 (r_.length : Int) >>= fun x16 =>
      some (b,b_2,b_3,(v14.set ((r_.length : Int).toNat) (T.qf.mk x16.kind x16.text x16.n x16.def_ x16.first x16.turned x16.form x16.opts x16.up (v14.length : Int))),(r_2 ++ [x.n]),r_3)
     else
      q0n (x.kids,(r_.length : Int),b,b_2,b_3,v7,(r_2 ++ [x.n]),r_3) >>= fun v18 =>
      qd v18.2.2.2.1 (r_.length : Int) >>= fun x20 =>
      some (v18.1,v18.2.1,v18.2.2.1,(v18.2.2.2.1.set ((r_.length : Int).toNat) (T.qf.mk x20.kind x20.text x20.n x20.def_ x20.first x20.turned x20.form x20.opts x20.up (v18.2.2.2.1.length : Int))),v18.2.2.2.2.1,v18.2.2.2.2.2)
    else none
  else
   q1b (plain,(r_.length : Int),0,b,b_2,b_3,r_,r_2,r_3,x,1,([] : Bytes),x.n,false,false,x.turned,x.form.rx.kind,x.form.rx.char,x.form.rx.not,x.form.rx.rows,x.form.rx.min,x.form.rx.max,x.form.rx.lazy,x.form.rx.kids,x.form.fmts,x.form.fold,x.form.all,up,0,([] : List Bytes)) >>= fun v42 =>
   uy (T.qf.mk 1 ([] : Bytes) x.n false false x.turned x.form (⟨v42.isEmpty,v42⟩ : (Sl Bytes)) up 0) b b_2 b_3 r_ r_2 r_3 >>= fun v44 =>
   some (b,b_2,b_3,v44,r_2,r_3)
 partial_fixpoint
end
def nk : ((Sl T.qc) × Int × Int × (Sl T.qi) × Bytes × Bytes × (List T.qf) × (List Int) × (List Bytes)) → Option (((Sl T.qi) × Bytes × Bytes × (List T.qf) × (List Int) × (List Bytes)))
 | (l,up,i,w,w2,w3,r1_,r2_,r3_) =>
  if (decide (i < (l.l.length : Int))) then
   qd l.l i >>= fun x3 =>
   if (x3.kind == 0) then
    q4k x3.text w2 w3 >>= fun v6 =>
    uy (T.qf.mk 0 v6 0 false false false (T.Form.mk (T.Rx.mk 0 ([] : Bytes) false (⟨true,([] : List T.Row)⟩ : (Sl T.Row)) 0 0 false (⟨true,([] : List T.Rx)⟩ : (Sl T.Rx))) (⟨true,([] : List T.Fmt)⟩ : (Sl T.Fmt)) false false) (⟨true,([] : List Bytes)⟩ : (Sl Bytes)) up 0) w w2 w3 r1_ r2_ r3_ >>= fun v8 =>
    nk (l,up,(IntKind.i64.wrap (i + 1)),w,w2,w3,v8,r2_,r3_)
   else
   if (x3.kind == 3) then
    q7z x3.text w >>= fun v11 =>
    if v11.2 then
     uy (T.qf.mk 2 v11.1 0 false false x3.turned x3.form (⟨true,([] : List Bytes)⟩ : (Sl Bytes)) up 0) w w2 w3 r1_ r2_ r3_ >>= fun v14 =>
     nk (l,up,(IntKind.i64.wrap (i + 1)),w,w2,w3,v14,r2_,r3_)
    else
    if x3.has then
     q0n (x3.kids,up,w,w2,w3,r1_,r2_,r3_) >>= fun v17 =>
     nk (l,up,(IntKind.i64.wrap (i + 1)),v17.1,v17.2.1,v17.2.2.1,v17.2.2.2.1,v17.2.2.2.2.1,v17.2.2.2.2.2)
    else
     q94 x3.text >>= fun v19 =>
     if (v19 || x3.turned) then
      uy (T.qf.mk 2 ([] : Bytes) 0 false false x3.turned x3.form (⟨true,([] : List Bytes)⟩ : (Sl Bytes)) up 0) w w2 w3 r1_ r2_ r3_ >>= fun v22 =>
      nk (l,up,(IntKind.i64.wrap (i + 1)),w,w2,w3,v22,r2_,r3_)
     else
      q9t x3.text w w2 w3 r1_ r2_ r3_ >>= fun v27 =>
      q8j (1,([] : Bytes),v27.1,true,false,0,([] : Bytes),false,(⟨true,([] : List T.Row)⟩ : Sl T.Row),0,0,false,(⟨true,([] : List T.Rx)⟩ : Sl T.Rx),(⟨true,([] : List T.Fmt)⟩ : Sl T.Fmt),false,false,(⟨true,([] : List Bytes)⟩ : Sl Bytes),up,true,w,w2,w3,[(T.qc.mk 0 x3.text 0 false false (T.Form.mk (T.Rx.mk 0 ([] : Bytes) false (⟨true,[]⟩ : (Sl T.Row)) 0 0 false (⟨true,[]⟩ : (Sl T.Rx))) (⟨true,[]⟩ : (Sl T.Fmt)) false false) (⟨true,[]⟩ : (Sl Bytes)) (⟨true,[]⟩ : (Sl T.qc)))],r1_,r2_,v27.2) >>= fun v29 =>
      match v29 with
      | .inl y30 =>
       nk (l,up,(IntKind.i64.wrap (i + 1)),w,w2,w3,y30.1,y30.2,v27.2)
      | .inr y31 =>
       nk (l,up,(IntKind.i64.wrap (i + 1)),y31.1,y31.2.1,y31.2.2.1,y31.2.2.2.1,y31.2.2.2.2.1,y31.2.2.2.2.2)
   else
    q8q (x3,up,false,w,w2,w3,r1_,r2_,r3_) >>= fun v33 =>
    nk (l,up,(IntKind.i64.wrap (i + 1)),v33.1,v33.2.1,v33.2.2.1,v33.2.2.2.1,v33.2.2.2.2.1,v33.2.2.2.2.2)
  else
   some (w,w2,w3,r1_,r2_,r3_)
 partial_fixpoint
def qa4 (l : (Sl T.qc)) (up : Int) (b : (Sl T.qi)) (b_2 : Bytes) (b_3 : Bytes) : Option (((Sl T.qi) × Bytes × Bytes × (List T.qf) × (List Int) × (List Bytes))) :=
 nk (l,up,0,b,b_2,b_3,([] : List T.qf),([] : List Int),([] : List Bytes)) >>= fun v2 =>
 some (v2.1,v2.2.1,v2.2.2.1,v2.2.2.2.1,v2.2.2.2.2.1,v2.2.2.2.2.2)
def q4t : (Int × Int × (Sl T.qi) × Bytes × Bytes × (List T.qf) × (List Int) × (List Bytes)) → Option ((Int))
 | (most,i,w,w2,w3,r1_,r2_,r3_) =>
  if (decide (i < (r1_.length : Int))) then
   qd r1_ i >>= fun x3 =>
   q4t ((if x3.n > most then x3.n else most),(IntKind.i64.wrap (i + 1)),w,w2,w3,r1_,r2_,r3_)
  else
   some most
 partial_fixpoint
def q3n : (Int × Int × (Sl T.qi) × Bytes × Bytes × (List T.qf) × (List Int) × (List Bytes)) → Option (((List T.qf)))
 | (most,i,w,w2,w3,r1_,r2_,r3_) =>
  if (decide (i < (r1_.length : Int))) then
   qd r1_ i >>= fun x3 =>
   if (decide (x3.n < 0)) then
    q3n (most,(IntKind.i64.wrap (i + 1)),w,w2,w3,(r1_.set i.toNat (T.qf.mk x3.kind x3.text (IntKind.i64.wrap (most - x3.n)) x3.def_ x3.first x3.turned x3.form x3.opts x3.up x3.end_)),r2_,r3_)
   else
    q3n (most,(IntKind.i64.wrap (i + 1)),w,w2,w3,r1_,r2_,r3_)
  else
   some r1_
 partial_fixpoint
def q1s : (Int × Int × (Sl T.qi) × Bytes × Bytes × (List T.qf) × (List Int) × (List Bytes)) → Option (((Int) ⊕ (Unit)))
 | (n,i,w,w2,w3,r1_,r2_,r3_) =>
  if (decide (i < (r1_.length : Int))) then
   qd r1_ i >>= fun x3 =>
   if (x3.kind == 1) then
    if x3.def_ then
     if (x3.n == n) then
      some (.inl i)
     else
      q1s (n,(IntKind.i64.wrap (i + 1)),w,w2,w3,r1_,r2_,r3_)
    else
     q1s (n,(IntKind.i64.wrap (i + 1)),w,w2,w3,r1_,r2_,r3_)
   else
    q1s (n,(IntKind.i64.wrap (i + 1)),w,w2,w3,r1_,r2_,r3_)
  else
   some (.inr ())
 partial_fixpoint
def q7b (n : Int) (b : (Sl T.qi)) (b_2 : Bytes) (b_3 : Bytes) (r_ : (List T.qf)) (r_2 : (List Int)) (r_3 : (List Bytes)) : Option ((Int)) :=
 q1s (n,0,b,b_2,b_3,r_,r_2,r_3) >>= fun v2 =>
 match v2 with
 | .inl y3 =>
  some y3
 | .inr y4 =>
  some (-1)
def gp : (Int × (Sl T.qi) × Bytes × Bytes × (List T.qf) × (List Int) × (List Bytes) × (List Int)) → Option (((List T.qf) × (List Int)))
 | (i,w,w2,w3,r1_,r2_,r3_,told) =>
  if (decide (i < (r1_.length : Int))) then
   qd r1_ i >>= fun x3 =>
   if (x3.kind == 1) then
    if x3.def_ then
     if qj (told.length + 1) 8 = true then
      gp ((IntKind.i64.wrap (i + 1)),w,w2,w3,(r1_.set i.toNat (T.qf.mk x3.kind x3.text x3.n x3.def_ true x3.turned x3.form x3.opts x3.up x3.end_)),r2_,r3_,(told ++ [x3.n]))
     else none
    else
    if (!x3.turned) then
     q7b x3.n w w2 w3 r1_ r2_ r3_ >>= fun v9 =>
     if (decide (v9 < 0)) then
      q26 x3.n told >>= fun v12 =>
      if (!v12) then
       if qj (told.length + 1) 8 = true then
        gp ((IntKind.i64.wrap (i + 1)),w,w2,w3,(r1_.set i.toNat (T.qf.mk x3.kind x3.text x3.n x3.def_ true x3.turned x3.form x3.opts x3.up x3.end_)),r2_,r3_,(told ++ [x3.n]))
       else none
      else
       gp ((IntKind.i64.wrap (i + 1)),w,w2,w3,r1_,r2_,r3_,told)
     else
      gp ((IntKind.i64.wrap (i + 1)),w,w2,w3,r1_,r2_,r3_,told)
    else
     gp ((IntKind.i64.wrap (i + 1)),w,w2,w3,r1_,r2_,r3_,told)
   else
    gp ((IntKind.i64.wrap (i + 1)),w,w2,w3,r1_,r2_,r3_,told)
  else
   some (r1_,told)
 partial_fixpoint
def qa3 (b : (Sl T.qi)) (b_2 : Bytes) (b_3 : Bytes) (r_ : (List T.qf)) (r_2 : (List Int)) (r_3 : (List Bytes)) : Option (((List T.qf))) :=
 q4t (0,0,b,b_2,b_3,r_,r_2,r_3) >>= fun v2 =>
 q3n (v2,0,b,b_2,b_3,r_,r_2,r_3) >>= fun v4 =>
 gp (0,b,b_2,b_3,v4,r_2,r_3,([] : List Int)) >>= fun v6 =>
 some v6.1
def q2p : (Int × Int × (Sl T.qi) × Bytes × Bytes × (List T.qf) × (List Int) × (List Bytes) × (List Int)) → Option (((List Int)))
 | (d,i,w,w2,w3,r1_,r2_,r3_,ns) =>
  qd r1_ d >>= fun x2 =>
  if (decide (i < x2.end_)) then
   qd r1_ i >>= fun x5 =>
   if (x5.kind == 1) then
    q26 x5.n ns >>= fun v8 =>
    if (!v8) then
     if qj (ns.length + 1) 8 = true then
      q2p (d,(IntKind.i64.wrap (i + 1)),w,w2,w3,r1_,r2_,r3_,(ns ++ [x5.n]))
     else none
    else
     q2p (d,(IntKind.i64.wrap (i + 1)),w,w2,w3,r1_,r2_,r3_,ns)
   else
    q2p (d,(IntKind.i64.wrap (i + 1)),w,w2,w3,r1_,r2_,r3_,ns)
  else
   some ns
 partial_fixpoint
def qai (d : Int) (b : (Sl T.qi)) (b_2 : Bytes) (b_3 : Bytes) (r_ : (List T.qf)) (r_2 : (List Int)) (r_3 : (List Bytes)) : Option (((List Int))) :=
 q2p (d,(IntKind.i64.wrap (d + 1)),b,b_2,b_3,r_,r_2,r_3,([] : List Int)) >>= fun v2 =>
 some v2
def q27 : (Int × Int × (Sl T.qi) × Bytes × Bytes × (List Int) × (List T.qf) × (List Int) × (List Bytes)) → Option (((List Int)))
 | (d,i,w,w2,w3,ns,r2_,r3_,r4_) =>
  qd r2_ d >>= fun x2 =>
  if (decide (i < x2.end_)) then
   qd r2_ i >>= fun x5 =>
   if (x5.kind == 1) then
    q26 x5.n ns >>= fun v8 =>
    if (!v8) then
     if qj (ns.length + 1) 8 = true then
      q27 (d,(IntKind.i64.wrap (i + 1)),w,w2,w3,(ns ++ [x5.n]),r2_,r3_,r4_)
     else none
    else
     q27 (d,(IntKind.i64.wrap (i + 1)),w,w2,w3,ns,r2_,r3_,r4_)
   else
    q27 (d,(IntKind.i64.wrap (i + 1)),w,w2,w3,ns,r2_,r3_,r4_)
  else
   some ns
 partial_fixpoint
def qax (d : Int) (b : (Sl T.qi)) (b_2 : Bytes) (b_3 : Bytes) (r_ : (List Int)) (r_2 : (List T.qf)) (r_3 : (List Int)) (r_4 : (List Bytes)) : Option (((List Int))) :=
 q27 (d,(IntKind.i64.wrap (d + 1)),b,b_2,b_3,r_,r_2,r_3,r_4) >>= fun v2 =>
 some v2
def q4c : (Int × Int × (Sl T.qi) × Bytes × Bytes × (List T.qf) × (List Int) × (List Bytes) × (List Int)) → Option (((List Int)))
 | (i,k,w,w2,w3,r1_,r2_,r3_,in_) =>
  if (decide (k < (in_.length : Int))) then
   qd in_ k >>= fun x3 =>
   q7b x3 w w2 w3 r1_ r2_ r3_ >>= fun v5 =>
   if (decide (v5 ≥ 0)) then
    qax v5 w w2 w3 in_ r1_ r2_ r3_ >>= fun v8 =>
    q4c (i,(IntKind.i64.wrap (k + 1)),w,w2,w3,r1_,r2_,r3_,v8)
   else
    q4c (i,(IntKind.i64.wrap (k + 1)),w,w2,w3,r1_,r2_,r3_,in_)
  else
   some in_
 partial_fixpoint
def q1c : (Int × (Sl T.qi) × Bytes × Bytes × (List T.qf) × (List Int) × (List Bytes)) → Option (((Bool) ⊕ (Unit)))
 | (i,w,w2,w3,r1_,r2_,r3_) =>
  if (decide (i < (r1_.length : Int))) then
   qd r1_ i >>= fun x3 =>
   if (x3.kind != 1) then
    q1c ((IntKind.i64.wrap (i + 1)),w,w2,w3,r1_,r2_,r3_)
   else
   if (!x3.def_) then
    q1c ((IntKind.i64.wrap (i + 1)),w,w2,w3,r1_,r2_,r3_)
   else
    qai i w w2 w3 r1_ r2_ r3_ >>= fun v7 =>
    q4c (i,0,w,w2,w3,r1_,r2_,r3_,v7) >>= fun v9 =>
    q26 x3.n v9 >>= fun v11 =>
    if v11 then
     some (.inl true)
    else
     q1c ((IntKind.i64.wrap (i + 1)),w,w2,w3,r1_,r2_,r3_)
  else
   some (.inr ())
 partial_fixpoint
def qcc (b : (Sl T.qi)) (b_2 : Bytes) (b_3 : Bytes) (r_ : (List T.qf)) (r_2 : (List Int)) (r_3 : (List Bytes)) : Option ((Bool)) :=
 q1c (0,b,b_2,b_3,r_,r_2,r_3) >>= fun v2 =>
 match v2 with
 | .inl y3 =>
  some y3
 | .inr y4 =>
  some false
def q38 : (Int × Int × (Sl T.qi) × Bytes × Bytes × (List T.qf) × (List Int) × (List Bytes)) → Option ((Int))
 | (many,i,w,w2,w3,r1_,r2_,r3_) =>
  if (decide (i < (r1_.length : Int))) then
   qd r1_ i >>= fun x3 =>
   if (x3.kind == 1) then
    q38 ((IntKind.i64.wrap (many + 1)),(IntKind.i64.wrap (i + 1)),w,w2,w3,r1_,r2_,r3_)
   else
    q38 (many,(IntKind.i64.wrap (i + 1)),w,w2,w3,r1_,r2_,r3_)
  else
   some many
 partial_fixpoint
def q4v : (Int × Int × (List Int) × (List Bytes)) → Option (((Int) ⊕ (Unit)))
 | (n,i,r1_,r2_) =>
  if (decide (i < (r1_.length : Int))) then
   qd r1_ i >>= fun x3 =>
   if (x3 == n) then
    some (.inl i)
   else
    q4v (n,(IntKind.i64.wrap (i + 1)),r1_,r2_)
  else
   some (.inr ())
 partial_fixpoint
def qd0 (n : Int) (r_ : (List Int)) (r_2 : (List Bytes)) : Option ((Int)) :=
 q4v (n,0,r_,r_2) >>= fun v2 =>
 match v2 with
 | .inl y3 =>
  some y3
 | .inr y4 =>
  some (-1)
def q0m : (Bytes × Int × (List Int)) → Option (((List Int)))
 | (s,i,l) =>
  if (decide (i ≤ (s.length : Int))) then
   if (i == (s.length : Int)) then
    if qj (l.length + 1) 8 = true then
     q0m (s,(IntKind.i64.wrap (i + 1)),(l ++ [i]))
    else none
   else
    qd s i >>= fun b5 =>
    q3q b5 >>= fun v7 =>
    if v7 then
     if qj (l.length + 1) 8 = true then
      q0m (s,(IntKind.i64.wrap (i + 1)),(l ++ [i]))
     else none
    else
     q0m (s,(IntKind.i64.wrap (i + 1)),l)
  else
   some l
 partial_fixpoint
def qbf (s : Bytes) : Option (((Sl Int))) :=
 q0m (s,1,[0]) >>= fun v2 =>
 some (⟨false,v2⟩ : Sl Int)
def q95 (fold : Bool) (s : Bytes) (fuel : Int) : Option ((T.qo)) :=
 q2x s >>= fun v2 =>
 qbf s >>= fun v4 =>
 some (T.qo.mk v2 v4 fold (if 20000 < (if 0 > fuel then 0 else fuel) then 20000 else (if 0 > fuel then 0 else fuel)) false)
mutual
def q11 (x : T.Rx) : Option ((Int)) :=
  if (x.kind == 5) then
   q3j (1,0,x) >>= fun v3 =>
   some v3
  else
   q3j (0,0,x) >>= fun v5 =>
   some v5
 partial_fixpoint
def q3j : (Int × Int × T.Rx) → Option ((Int))
 | (n,i,x) =>
  if (decide (i < (x.kids.l.length : Int))) then
   qd x.kids.l i >>= fun x3 =>
   q11 x3 >>= fun v5 =>
   q3j ((IntKind.i64.wrap (n + v5)),(IntKind.i64.wrap (i + 1)),x)
  else
   some n
 partial_fixpoint
end
def q6s : (Int × Int × T.qo × T.Rx × T.qp × (List T.Span)) → Option (((List T.Span)))
 | (i,j,r_,x,t6,none_) =>
  q11 x >>= fun v2 =>
  if (decide (j < v2)) then
   if qj (none_.length + 1) 16 = true then
    q6s (i,(IntKind.i64.wrap (j + 1)),r_,x,t6,(none_ ++ [(T.Span.mk (-1) (-1))]))
   else none
  else
   some none_
 partial_fixpoint
def q7h : ((Option T.qw) × Int × Int × T.qo × (List T.Span)) → Option (((List T.Span)))
 | (k,i,j,r_,p_) =>
  k >>= fun x2 =>
  q11 x2.x >>= fun v4 =>
  if (decide (j < v4)) then
   qd p_ (IntKind.i64.wrap (x2.g + j)) >>= fun x7 =>
   q7h (k,i,(IntKind.i64.wrap (j + 1)),r_,(p_.set ((IntKind.i64.wrap (x2.g + j)).toNat) (T.Span.mk (-1) (-1))))
  else
   some p_
 partial_fixpoint
def q4w : ((Option T.qw) × Int × (Sl T.Span) × (Option T.qw) × Int × Int × T.qo) → Option (((Option T.qw)))
 | (k,i,parts,rest,g,j,r_) =>
  if (decide (j ≥ 0)) then
   k >>= fun x3 =>
   qd x3.x.kids.l j >>= fun x5 =>
   q11 x5 >>= fun v7 =>
   q4w (k,i,parts,(some (T.qw.mk 0 x5 (IntKind.i64.wrap (g - v7)) 0 0 rest)),(IntKind.i64.wrap (g - v7)),(IntKind.i64.wrap (j - 1)),r_)
  else
   some rest
 partial_fixpoint
def q6q (c : Bytes) : Option ((Bool)) :=
 if ((c.length : Int) == 1) then
  qd c 0 >>= fun b3 =>
  q4y b3 >>= fun v5 =>
  if v5 then
   some true
  else
   q15 b3 >>= fun v8 =>
   if v8 then
    some true
   else
    some ((b3.toNat : Int) == 95)
 else
  some false
def q41 : ((Sl T.Row) × Bytes × Int) → Option (((Bool) ⊕ (Unit)))
 | (rows,c,i) =>
  if (decide (i < (rows.l.length : Int))) then
   qd rows.l i >>= fun x3 =>
   if (j6 x3.frm c || x3.frm == c) then
    if (j6 c x3.to || c == x3.to) then
     some (.inl true)
    else
     q41 (rows,c,(IntKind.i64.wrap (i + 1)))
   else
    q41 (rows,c,(IntKind.i64.wrap (i + 1)))
  else
   some (.inr ())
 partial_fixpoint
def q7i (rows : (Sl T.Row)) (c : Bytes) : Option ((Bool)) :=
 q41 (rows,c,0) >>= fun v2 =>
 match v2 with
 | .inl y3 =>
  some y3
 | .inr y4 =>
  some false
def q34 : (Int × (List UInt8)) → Option (((List UInt8)))
 | (i,b) =>
  if (decide (i < (b.length : Int))) then
   qd b i >>= fun x3 =>
   if (decide ((x3.toNat : Int) ≥ 97)) then
    if (decide ((x3.toNat : Int) ≤ 122)) then
     q34 ((IntKind.i64.wrap (i + 1)),(b.set i.toNat (u8 (IntKind.u8.wrap ((x3.toNat : Int) - 32)))))
    else
     q34 ((IntKind.i64.wrap (i + 1)),b)
   else
    q34 ((IntKind.i64.wrap (i + 1)),b)
  else
   some b
 partial_fixpoint
def qb0 (s : Bytes) : Option ((Bytes)) :=
 q34 (0,s) >>= fun v2 =>
 some v2
def qb3 (rows : (Sl T.Row)) (not : Bool) (fold : Bool) (c : Bytes) : Option ((Bool)) :=
 q7i rows c >>= fun v2 =>
 if fold then
  q2b c >>= fun v5 =>
  q7i rows v5 >>= fun v7 =>
  if v7 then
   some (!(true == not))
  else
   qb0 c >>= fun v10 =>
   q7i rows v10 >>= fun v12 =>
   if v12 then
    some (!(true == not))
   else
    some (!(v2 == not))
 else
  some (!(v2 == not))
def qap (x : T.Rx) (i : Int) (b : T.qo) : Option ((Int × Bool)) :=
 if (x.kind == 8) then
  some (0,(i == 0))
 else
 if (x.kind == 9) then
  some (0,(i == (b.cs.l.length : Int)))
 else
 if ((x.kind == 10) || (x.kind == 11)) then
  if (decide (i > 0)) then
   qd b.cs.l (IntKind.i64.wrap (i - 1)) >>= fun x6 =>
   q6q x6 >>= fun v8 =>
   if (decide (i < (b.cs.l.length : Int))) then
    qd b.cs.l i >>= fun x11 =>
    q6q x11 >>= fun v13 =>
    some (0,((!(v8 == v13)) == (x.kind == 10)))
   else
    some (0,((!(v8 == false)) == (x.kind == 10)))
  else
  if (decide (i < (b.cs.l.length : Int))) then
   qd b.cs.l i >>= fun x16 =>
   q6q x16 >>= fun v18 =>
   some (0,((!(false == v18)) == (x.kind == 10)))
  else
   some (0,((!(false == false)) == (x.kind == 10)))
 else
 if (decide (i ≥ (b.cs.l.length : Int))) then
  some (0,false)
 else
  qd b.cs.l i >>= fun x37 =>
  if (x.kind == 3) then
   some (1,(!(x37 == ([10] : Bytes))))
  else
  if (x.kind == 4) then
   qb3 x.rows x.not b.fold x37 >>= fun v41 =>
   some (1,v41)
  else
  if (x37 == x.char) then
   some (1,true)
  else
  if b.fold then
   q2b x37 >>= fun v45 =>
   q2b x.char >>= fun v47 =>
   some (1,(v45 == v47))
  else
   some (1,false)
mutual
def xk : ((Option T.qw) × Int × (Sl T.Span) × T.qo) → Option ((Int × (Sl T.Span) × Bool × T.qo))
 | (k,i,parts,b) =>
  if k.isNone then
   some (i,parts,true,b)
  else
   k >>= fun x3 =>
   if (x3.kind == 1) then
    if qj (parts.l.length) 16 = true then
     qd b.offs.l x3.frm >>= fun x7 =>
     qd b.offs.l i >>= fun x9 =>
     qd parts.l x3.g >>= fun x11 =>
     xk (x3.rest,i,(⟨false,(parts.l.set x3.g.toNat (T.Span.mk x7 x9))⟩ : Sl T.Span),b) >>= fun v13 =>
     some (v13.1,v13.2.1,v13.2.2.1,v13.2.2.2)
    else none
   else
   if (x3.kind == 2) then
    if (decide (x3.many > x3.x.min)) then
     if (i == x3.frm) then
      some (0,(⟨true,([] : List T.Span)⟩ : Sl T.Span),false,b)
     else
      q5x (k,i,parts,b) >>= fun v18 =>
      some (v18.1,v18.2.1,v18.2.2.1,v18.2.2.2)
    else
     q5x (k,i,parts,b) >>= fun v20 =>
     some (v20.1,v20.2.1,v20.2.2.1,v20.2.2.2)
   else
   if (x3.x.kind == 0) then
    q11 x3.x >>= fun v23 =>
    q4w (k,i,parts,x3.rest,(IntKind.i64.wrap (x3.g + v23)),(IntKind.i64.wrap ((x3.x.kids.l.length : Int) - 1)),b) >>= fun v25 =>
    xk (v25,i,parts,b) >>= fun v27 =>
    some (v27.1,v27.2.1,v27.2.2.1,v27.2.2.2)
   else
   if (x3.x.kind == 1) then
    q58 (k,i,parts,x3.g,0,b) >>= fun v30 =>
    match v30 with
    | .inl y31 =>
     some (y31.1,y31.2.1,y31.2.2.1,y31.2.2.2)
    | .inr y32 =>
     some (0,(⟨true,([] : List T.Span)⟩ : Sl T.Span),false,y32)
   else
   if (x3.x.kind == 7) then
    q5x ((some (T.qw.mk 0 x3.x x3.g 0 0 x3.rest)),i,parts,b) >>= fun v35 =>
    some (v35.1,v35.2.1,v35.2.2.1,v35.2.2.2)
   else
    qah (k,i,parts,b) >>= fun v37 =>
    some (v37.1,v37.2.1,v37.2.2.1,v37.2.2.2)
 partial_fixpoint
def q5x : ((Option T.qw) × Int × (Sl T.Span) × T.qo) → Option ((Int × (Sl T.Span) × Bool × T.qo))
 | (k,i,parts,b) =>
  k >>= fun x2 =>
  if (x2.x.max == (-1)) then
   if (decide (x2.many < x2.x.min)) then
    tu (k,i,parts,b) >>= fun v6 =>
    some (v6.1,v6.2.1,v6.2.2.1,v6.2.2.2)
   else
   if x2.x.lazy then
    xk (x2.rest,i,parts,b) >>= fun v9 =>
    if (v9.2.2.1 || v9.2.2.2.out) then
     some (v9.1,v9.2.1,v9.2.2.1,v9.2.2.2)
    else
     tu (k,i,parts,v9.2.2.2) >>= fun v13 =>
     some (v13.1,v13.2.1,v13.2.2.1,v13.2.2.2)
   else
    tu (k,i,parts,b) >>= fun v15 =>
    if (v15.2.2.1 || v15.2.2.2.out) then
     some (v15.1,v15.2.1,v15.2.2.1,v15.2.2.2)
    else
     xk (x2.rest,i,parts,v15.2.2.2) >>= fun v19 =>
     some (v19.1,v19.2.1,v19.2.2.1,v19.2.2.2)
  else
  if (decide (x2.many < x2.x.min)) then
   tu (k,i,parts,b) >>= fun v22 =>
   some (v22.1,v22.2.1,v22.2.2.1,v22.2.2.2)
  else
  if x2.x.lazy then
   xk (x2.rest,i,parts,b) >>= fun v25 =>
   if (v25.2.2.1 || (v25.2.2.2.out || (!(decide (x2.many < x2.x.max))))) then
    some (v25.1,v25.2.1,v25.2.2.1,v25.2.2.2)
   else
    tu (k,i,parts,v25.2.2.2) >>= fun v30 =>
    some (v30.1,v30.2.1,v30.2.2.1,v30.2.2.2)
  else
  if (decide (x2.many < x2.x.max)) then
   tu (k,i,parts,b) >>= fun v33 =>
   if (v33.2.2.1 || v33.2.2.2.out) then
    some (v33.1,v33.2.1,v33.2.2.1,v33.2.2.2)
   else
    xk (x2.rest,i,parts,v33.2.2.2) >>= fun v37 =>
    some (v37.1,v37.2.1,v37.2.2.1,v37.2.2.2)
  else
   xk (x2.rest,i,parts,b) >>= fun v39 =>
   some (v39.1,v39.2.1,v39.2.2.1,v39.2.2.2)
 partial_fixpoint
def tu : ((Option T.qw) × Int × (Sl T.Span) × T.qo) → Option ((Int × (Sl T.Span) × Bool × T.qo))
 | (k,i,parts,b) =>
  if qj (parts.l.length) 16 = true then
   q7h (k,i,0,b,parts.l) >>= fun v3 =>
   k >>= fun x5 =>
   qd x5.x.kids.l 0 >>= fun x7 =>
   xk ((some (T.qw.mk 0 x7 x5.g 0 0 (some (T.qw.mk 2 x5.x x5.g (IntKind.i64.wrap (x5.many + 1)) i x5.rest)))),i,(⟨false,v3⟩ : Sl T.Span),b) >>= fun v9 =>
   some (v9.1,v9.2.1,v9.2.2.1,v9.2.2.2)
  else none
 partial_fixpoint
def q58 : ((Option T.qw) × Int × (Sl T.Span) × Int × Int × T.qo) → Option (((Int × (Sl T.Span) × Bool × T.qo) ⊕ (T.qo)))
 | (k,i,parts,g,j,r_) =>
  k >>= fun x2 =>
  if (decide (j < (x2.x.kids.l.length : Int))) then
   qd x2.x.kids.l j >>= fun x5 =>
   xk ((some (T.qw.mk 0 x5 g 0 0 x2.rest)),i,parts,r_) >>= fun v7 =>
   if (v7.2.2.1 || v7.2.2.2.out) then
    some (.inl (v7.1,v7.2.1,v7.2.2.1,v7.2.2.2))
   else
    q11 x5 >>= fun v11 =>
    q58 (k,i,parts,(IntKind.i64.wrap (g + v11)),(IntKind.i64.wrap (j + 1)),v7.2.2.2)
  else
   some (.inr r_)
 partial_fixpoint
def qah : ((Option T.qw) × Int × (Sl T.Span) × T.qo) → Option ((Int × (Sl T.Span) × Bool × T.qo))
 | (k,i,parts,b) =>
  if (b.fuel == 0) then
   some (0,(⟨true,([] : List T.Span)⟩ : Sl T.Span),false,(T.qo.mk b.cs b.offs b.fold b.fuel true))
  else
   k >>= fun x3 =>
   if (x3.x.kind == 5) then
    qd x3.x.kids.l 0 >>= fun x6 =>
    xk ((some (T.qw.mk 0 x6 (IntKind.i64.wrap (x3.g + 1)) 0 0 (some (T.qw.mk 1 (T.Rx.mk 0 ([] : Bytes) false (⟨true,([] : List T.Row)⟩ : (Sl T.Row)) 0 0 false (⟨true,([] : List T.Rx)⟩ : (Sl T.Rx))) x3.g 0 i x3.rest)))),i,parts,(T.qo.mk b.cs b.offs b.fold (IntKind.i64.wrap (b.fuel - 1)) b.out)) >>= fun v8 =>
    some (v8.1,v8.2.1,v8.2.2.1,v8.2.2.2)
   else
   if (x3.x.kind == 6) then
    qd x3.x.kids.l 0 >>= fun x11 =>
    xk ((some (T.qw.mk 0 x11 x3.g 0 0 x3.rest)),i,parts,(T.qo.mk b.cs b.offs b.fold (IntKind.i64.wrap (b.fuel - 1)) b.out)) >>= fun v13 =>
    some (v13.1,v13.2.1,v13.2.2.1,v13.2.2.2)
   else
    qap x3.x i (T.qo.mk b.cs b.offs b.fold (IntKind.i64.wrap (b.fuel - 1)) b.out) >>= fun v15 =>
    if (!v15.2) then
     some (0,(⟨true,([] : List T.Span)⟩ : Sl T.Span),false,(T.qo.mk b.cs b.offs b.fold (IntKind.i64.wrap (b.fuel - 1)) b.out))
    else
     xk (x3.rest,(IntKind.i64.wrap (i + v15.1)),parts,(T.qo.mk b.cs b.offs b.fold (IntKind.i64.wrap (b.fuel - 1)) b.out)) >>= fun v18 =>
     some (v18.1,v18.2.1,v18.2.2.1,v18.2.2.2)
 partial_fixpoint
end
def qay (x : T.Rx) (i : Int) (b : T.qo) : Option ((T.qp × Bool × T.qo)) :=
 q6s (i,0,b,x,(T.qp.mk (T.Span.mk 0 0) (⟨true,([] : List T.Span)⟩ : (Sl T.Span))),([] : List T.Span)) >>= fun v2 =>
 xk ((some (T.qw.mk 0 x 0 0 0 (none : (Option T.qw)))),i,(⟨v2.isEmpty,v2⟩ : Sl T.Span),b) >>= fun v4 =>
 if (!v4.2.2.1) then
  some ((T.qp.mk (T.Span.mk 0 0) (⟨true,([] : List T.Span)⟩ : (Sl T.Span))),false,v4.2.2.2)
 else
  qd v4.2.2.2.offs.l i >>= fun x7 =>
  qd v4.2.2.2.offs.l v4.1 >>= fun x9 =>
  some ((T.qp.mk (T.Span.mk x7 x9) v4.2.1),true,v4.2.2.2)
def q6f : (Int × T.qo × T.Rx × T.qp) → Option (((Bool × T.qo × T.qp) ⊕ (T.qo)))
 | (i,r_,x,t6) =>
  if (decide (i < (r_.offs.l.length : Int))) then
   qay x i r_ >>= fun v3 =>
   if (v3.2.1 || v3.2.2.out) then
    some (.inl (v3.2.1,v3.2.2,v3.1))
   else
    q6f ((IntKind.i64.wrap (i + 1)),v3.2.2,x,t6)
  else
   some (.inr r_)
 partial_fixpoint
def q9b (x : T.Rx) (i : Int) (b : T.qo) : Option ((T.qp × Bool × T.qo)) :=
 q6f (i,b,x,(T.qp.mk (T.Span.mk 0 0) (⟨true,([] : List T.Span)⟩ : (Sl T.Span)))) >>= fun v2 =>
 match v2 with
 | .inl y3 =>
  some (y3.2.2,y3.1,y3.2.1)
 | .inr y4 =>
  some ((T.qp.mk (T.Span.mk 0 0) (⟨true,([] : List T.Span)⟩ : (Sl T.Span))),false,y4)
def q4f : (Int × Int × T.qo) → Option (((Int) ⊕ (Unit)))
 | (at_,i,r_) =>
  if (decide (i < (r_.offs.l.length : Int))) then
   qd r_.offs.l i >>= fun x3 =>
   if (x3 == at_) then
    some (.inl i)
   else
    q4f (at_,(IntKind.i64.wrap (i + 1)),r_)
  else
   some (.inr ())
 partial_fixpoint
def q90 (at_ : Int) (b : T.qo) : Option ((Int)) :=
 q4f (at_,0,b) >>= fun v2 =>
 match v2 with
 | .inl y3 =>
  some y3
 | .inr y4 =>
  some (-1)
def q5m : (Int × T.Rx × T.qo × (List T.qp)) → Option ((((Sl T.qp) × Int × Int × T.qo × (List T.qp)) ⊕ (T.qo × (List T.qp))))
 | (i,x,r_,out) =>
  if (decide (i < (r_.offs.l.length : Int))) then
   q9b x i r_ >>= fun v3 =>
   if v3.2.2.out then
    some (.inl ((⟨true,([] : List T.qp)⟩ : Sl T.qp),0,9,v3.2.2,out))
   else
   if (!v3.2.1) then
    some (.inr (v3.2.2,out))
   else
    if qj (out.length + 1) 40 = true then
     q90 v3.1.span.to v3.2.2 >>= fun v8 =>
     if (v3.1.span.frm == v3.1.span.to) then
      q5m ((IntKind.i64.wrap (v8 + 1)),x,v3.2.2,(out ++ [v3.1]))
     else
      q5m (v8,x,v3.2.2,(out ++ [v3.1]))
    else none
  else
   some (.inr (r_,out))
 partial_fixpoint
def qct (x : T.Rx) (fold : Bool) (s : Bytes) (fuel : Int) : Option (((Sl T.qp) × Int × Int)) :=
 q6r x >>= fun v2 =>
 if (!v2) then
  some ((⟨true,([] : List T.qp)⟩ : Sl T.qp),0,10)
 else
  q95 fold s fuel >>= fun v5 =>
  q5m (0,x,v5,([] : List T.qp)) >>= fun v7 =>
  match v7 with
  | .inl y8 =>
   some (y8.1,y8.2.1,y8.2.2.1)
  | .inr y9 =>
   some ((⟨y9.2.isEmpty,y9.2⟩ : Sl T.qp),y9.1.fuel,0)
def q30 : (Bytes × Int × T.Form × T.qp × (List Bytes)) → Option (((List Bytes)))
 | (s,i,f,m,parts) =>
  if (decide (i < (m.parts.l.length : Int))) then
   qd m.parts.l i >>= fun x3 =>
   if (decide (x3.frm ≥ 0)) then
    sub2 s x3.frm x3.to >>= fun r6 =>
    if qj (parts.length + 1) 16 = true then
     q30 (s,(IntKind.i64.wrap (i + 1)),f,m,(parts ++ [r6]))
    else none
   else
    if qj (parts.length + 1) 16 = true then
     q30 (s,(IntKind.i64.wrap (i + 1)),f,m,(parts ++ [([] : Bytes)]))
    else none
  else
   some parts
 partial_fixpoint
def q7r (c : UInt8) : Option ((UInt8)) :=
 if ((decide ((c.toNat : Int) ≥ 97)) && (decide ((c.toNat : Int) ≤ 122))) then
  some (u8 (IntKind.u8.wrap ((c.toNat : Int) - 32)))
 else
  some c
def q6j : (Int × (List UInt8)) → Option (((List UInt8)))
 | (i,b) =>
  if (decide (i < (b.length : Int))) then
   qd b i >>= fun x3 =>
   q7r x3 >>= fun v5 =>
   q6j ((IntKind.i64.wrap (i + 1)),(b.set i.toNat v5))
  else
   some b
 partial_fixpoint
def q80 (c : UInt8) : Option ((UInt8)) :=
 if ((decide ((c.toNat : Int) ≥ 65)) && (decide ((c.toNat : Int) ≤ 90))) then
  some (u8 (IntKind.u8.wrap ((c.toNat : Int) + 32)))
 else
  some c
def q6y : (Int × (List UInt8)) → Option (((List UInt8)))
 | (i,b) =>
  if (decide (i < (b.length : Int))) then
   qd b i >>= fun x3 =>
   q80 x3 >>= fun v5 =>
   q6y ((IntKind.i64.wrap (i + 1)),(b.set i.toNat v5))
  else
   some b
 partial_fixpoint
def qdb (c : UInt8) : Option ((Bool)) :=
 if ((decide ((c.toNat : Int) ≥ 65)) && (decide ((c.toNat : Int) ≤ 90))) then
  some true
 else
 if (decide ((c.toNat : Int) ≥ 97)) then
  some (decide ((c.toNat : Int) ≤ 122))
 else
  some false
def q7e (c : UInt8) : Option ((Bool)) :=
 qdb c >>= fun v2 =>
 if (v2 || ((decide ((c.toNat : Int) ≥ 48)) && (decide ((c.toNat : Int) ≤ 57)))) then
  some true
 else
  some (decide ((c.toNat : Int) ≥ 128))
def q0k : (Bytes × Int × (List Bytes)) → Option (((List Bytes)))
 | (s,i,l) =>
  if (decide (i < (s.length : Int))) then
   qd s i >>= fun b3 =>
   q7e b3 >>= fun v5 =>
   if (!v5) then
    q0k (s,(IntKind.i64.wrap (i + 1)),l)
   else
   if (i == 0) then
    if qj (l.length + 1) 16 = true then
     qd (l ++ [([] : Bytes)]) (IntKind.i64.wrap (((l ++ [([] : Bytes)]).length : Int) - 1)) >>= fun x10 =>
     sub2 s i (IntKind.i64.wrap (i + 1)) >>= fun r12 =>
     if x10.length + r12.length ≤ 2 ^ 62 then
      q0k (s,(IntKind.i64.wrap (i + 1)),((l ++ [([] : Bytes)]).set ((IntKind.i64.wrap (((l ++ [([] : Bytes)]).length : Int) - 1)).toNat) (x10 ++ r12)))
     else none
    else none
   else
    qd s (IntKind.i64.wrap (i - 1)) >>= fun b15 =>
    q7e b15 >>= fun v17 =>
    if (!v17) then
     if qj (l.length + 1) 16 = true then
      qd (l ++ [([] : Bytes)]) (IntKind.i64.wrap (((l ++ [([] : Bytes)]).length : Int) - 1)) >>= fun x21 =>
      sub2 s i (IntKind.i64.wrap (i + 1)) >>= fun r23 =>
      if x21.length + r23.length ≤ 2 ^ 62 then
       q0k (s,(IntKind.i64.wrap (i + 1)),((l ++ [([] : Bytes)]).set ((IntKind.i64.wrap (((l ++ [([] : Bytes)]).length : Int) - 1)).toNat) (x21 ++ r23)))
      else none
     else none
    else
     qd l (IntKind.i64.wrap ((l.length : Int) - 1)) >>= fun x26 =>
     sub2 s i (IntKind.i64.wrap (i + 1)) >>= fun r28 =>
     if x26.length + r28.length ≤ 2 ^ 62 then
      q0k (s,(IntKind.i64.wrap (i + 1)),(l.set ((IntKind.i64.wrap ((l.length : Int) - 1)).toNat) (x26 ++ r28)))
     else none
  else
   some l
 partial_fixpoint
def qc0 (s : Bytes) : Option (((Sl Bytes))) :=
 q0k (s,0,([] : List Bytes)) >>= fun v2 =>
 some (⟨v2.isEmpty,v2⟩ : Sl Bytes)
def q3x : (Int × (Sl Bytes) × Bytes × Int × (List UInt8)) → Option ((Bytes))
 | (way,l,out,i,r0_) =>
  if (decide (i < (l.l.length : Int))) then
   qd l.l i >>= fun x3 =>
   if ((i == 0) && (way == 4)) then
    qd x3 0 >>= fun x7 =>
    q80 x7 >>= fun v9 =>
    if out.length + (x3.set ((0 : Int).toNat) v9).length ≤ 2 ^ 62 then
     q3x (way,l,(out ++ (x3.set ((0 : Int).toNat) v9)),(IntKind.i64.wrap (i + 1)),r0_)
    else none
   else
    qd x3 0 >>= fun x17 =>
    q7r x17 >>= fun v19 =>
    if out.length + (x3.set ((0 : Int).toNat) v19).length ≤ 2 ^ 62 then
     q3x (way,l,(out ++ (x3.set ((0 : Int).toNat) v19)),(IntKind.i64.wrap (i + 1)),r0_)
    else none
  else
   some out
 partial_fixpoint
def q8r (s : Bytes) (way : Int) : Option ((Bytes × Int)) :=
 if (way == 1) then
  q6j (0,s) >>= fun v3 =>
  some (v3,0)
 else
 if (way == 2) then
  q6y (0,s) >>= fun v6 =>
  some (v6,0)
 else
 if (way == 3) then
  if (decide ((s.length : Int) > 0)) then
   qd s 0 >>= fun x10 =>
   q7r x10 >>= fun v12 =>
   some ((s.set ((0 : Int).toNat) v12),0)
  else
   some (s,0)
 else
 if ((way == 4) || (way == 5)) then
  qc0 s >>= fun v15 =>
  q3x (way,v15,([] : Bytes),0,s) >>= fun v17 =>
  some (v17,0)
 else
  some (([] : Bytes),2)
def kg : ((Sl T.Fmt) × (Sl Bytes) × Bytes × Int) → Option ((Bytes))
 | (fs,parts,s,i) =>
  if (decide (i < (fs.l.length : Int))) then
   qd fs.l i >>= fun x3 =>
   if (decide (x3.n < (parts.l.length : Int))) then
    qd parts.l x3.n >>= fun x6 =>
    if (x3.kind == 0) then
     if s.length + x3.thn.length ≤ 2 ^ 62 then
      kg (fs,parts,(s ++ x3.thn),(IntKind.i64.wrap (i + 1)))
     else none
    else
    if (x3.kind == 1) then
     if s.length + x6.length ≤ 2 ^ 62 then
      kg (fs,parts,(s ++ x6),(IntKind.i64.wrap (i + 1)))
     else none
    else
    if (x3.kind == 2) then
     q8r x6 x3.cas >>= fun v13 =>
     if s.length + v13.1.length ≤ 2 ^ 62 then
      kg (fs,parts,(s ++ v13.1),(IntKind.i64.wrap (i + 1)))
     else none
    else
    if (x3.kind == 4) then
     if (x6 == ([] : Bytes)) then
      if s.length + x3.els.length ≤ 2 ^ 62 then
       kg (fs,parts,(s ++ x3.els),(IntKind.i64.wrap (i + 1)))
      else none
     else
      if s.length + x6.length ≤ 2 ^ 62 then
       kg (fs,parts,(s ++ x6),(IntKind.i64.wrap (i + 1)))
      else none
    else
    if (!(x6 == ([] : Bytes))) then
     if s.length + x3.thn.length ≤ 2 ^ 62 then
      kg (fs,parts,(s ++ x3.thn),(IntKind.i64.wrap (i + 1)))
     else none
    else
     if s.length + x3.els.length ≤ 2 ^ 62 then
      kg (fs,parts,(s ++ x3.els),(IntKind.i64.wrap (i + 1)))
     else none
   else
   if (x3.kind == 0) then
    if s.length + x3.thn.length ≤ 2 ^ 62 then
     kg (fs,parts,(s ++ x3.thn),(IntKind.i64.wrap (i + 1)))
    else none
   else
   if (x3.kind == 1) then
    if s.length + ([] : Bytes).length ≤ 2 ^ 62 then
     kg (fs,parts,(s ++ ([] : Bytes)),(IntKind.i64.wrap (i + 1)))
    else none
   else
   if (x3.kind == 2) then
    q8r ([] : Bytes) x3.cas >>= fun v28 =>
    if s.length + v28.1.length ≤ 2 ^ 62 then
     kg (fs,parts,(s ++ v28.1),(IntKind.i64.wrap (i + 1)))
    else none
   else
   if (x3.kind == 4) then
    if (([] : Bytes) == ([] : Bytes)) then
     if s.length + x3.els.length ≤ 2 ^ 62 then
      kg (fs,parts,(s ++ x3.els),(IntKind.i64.wrap (i + 1)))
     else none
    else
     if s.length + ([] : Bytes).length ≤ 2 ^ 62 then
      kg (fs,parts,(s ++ ([] : Bytes)),(IntKind.i64.wrap (i + 1)))
     else none
   else
   if (!(([] : Bytes) == ([] : Bytes))) then
    if s.length + x3.thn.length ≤ 2 ^ 62 then
     kg (fs,parts,(s ++ x3.thn),(IntKind.i64.wrap (i + 1)))
    else none
   else
    if s.length + x3.els.length ≤ 2 ^ 62 then
     kg (fs,parts,(s ++ x3.els),(IntKind.i64.wrap (i + 1)))
    else none
  else
   some s
 partial_fixpoint
def qcd (fs : (Sl T.Fmt)) (parts : (Sl Bytes)) : Option ((Bytes)) :=
 q85 fs >>= fun v2 =>
 if (!v2) then
  some ([] : Bytes)
 else
  kg (fs,parts,([] : Bytes),0) >>= fun v5 =>
  some v5
def q7q (f : T.Form) (s : Bytes) (m : T.qp) : Option ((Bytes)) :=
 sub2 s m.span.frm m.span.to >>= fun r2 =>
 q30 (s,0,f,m,[r2]) >>= fun v4 =>
 qcd f.fmts (⟨false,v4⟩ : Sl Bytes) >>= fun v6 =>
 some v6
def q4r : (Bytes × (Sl T.qp) × Int × Bytes × Int × Int × T.Form) → Option (((Bytes × Int × Int × Bytes × Int) ⊕ (Bytes × Int)))
 | (s,ms,left,out,at_,i,f) =>
  if (decide (i < (ms.l.length : Int))) then
   qd ms.l i >>= fun x3 =>
   sub2 s at_ x3.span.frm >>= fun r5 =>
   if out.length + r5.length ≤ 2 ^ 62 then
    q7q f s x3 >>= fun v8 =>
    if (out ++ r5).length + v8.length ≤ 2 ^ 62 then
     if (decide ((((out ++ r5) ++ v8).length : Int) > 65536)) then
      some (.inl (([] : Bytes),0,4,((out ++ r5) ++ v8),x3.span.to))
     else
      q4r (s,ms,left,((out ++ r5) ++ v8),x3.span.to,(IntKind.i64.wrap (i + 1)),f)
    else none
   else none
  else
   some (.inr (out,at_))
 partial_fixpoint
def qeo (m : T.qp) (ok : Bool) (b : T.qo) : Option ((T.qp × Int × Bool × Int)) :=
 if b.out then
  some ((T.qp.mk (T.Span.mk 0 0) (⟨true,([] : List T.Span)⟩ : (Sl T.Span))),0,false,9)
 else
  some (m,b.fuel,ok,0)
def qa7 (x : T.Rx) (fold : Bool) (s : Bytes) (at_ : Int) (fuel : Int) : Option ((T.qp × Int × Bool × Int)) :=
 q6r x >>= fun v2 =>
 if (!v2) then
  some ((T.qp.mk (T.Span.mk 0 0) (⟨true,([] : List T.Span)⟩ : (Sl T.Span))),0,false,10)
 else
  q95 fold s fuel >>= fun v5 =>
  q90 at_ v5 >>= fun v7 =>
  if (decide (v7 < 0)) then
   some ((T.qp.mk (T.Span.mk 0 0) (⟨true,([] : List T.Span)⟩ : (Sl T.Span))),0,false,3)
  else
   q9b x v7 v5 >>= fun v10 =>
   qeo v10.1 v10.2.1 v10.2.2 >>= fun v12 =>
   some (v12.1,v12.2.1,v12.2.2.1,v12.2.2.2)
def q5e : (Bytes × Int × Bytes × Int × Int × T.Form × T.qp × (List T.qp) × (List T.qp)) → Option (((Bytes × Int × Int × Bytes × Int) ⊕ (Bytes × Int)))
 | (s,left,out,at_,i,f,b1_,r2_,ms) =>
  if (decide (i < (ms.length : Int))) then
   qd ms i >>= fun x3 =>
   sub2 s at_ x3.span.frm >>= fun r5 =>
   if out.length + r5.length ≤ 2 ^ 62 then
    q7q f s x3 >>= fun v8 =>
    if (out ++ r5).length + v8.length ≤ 2 ^ 62 then
     if (decide ((((out ++ r5) ++ v8).length : Int) > 65536)) then
      some (.inl (([] : Bytes),0,4,((out ++ r5) ++ v8),x3.span.to))
     else
      q5e (s,left,((out ++ r5) ++ v8),x3.span.to,(IntKind.i64.wrap (i + 1)),f,b1_,r2_,ms)
    else none
   else none
  else
   some (.inr (out,at_))
 partial_fixpoint
def qas : (Bytes × (Sl T.qp) × Int × Bytes × Int × Int × T.Form × T.qp) → Option (((Bytes × Int × Int × Bytes × Int) ⊕ (Bytes × Int)))
 | (s,ms,left,out,at_,i,f,b1_) =>
  if (decide (i < (ms.l.length : Int))) then
   qd ms.l i >>= fun x3 =>
   sub2 s at_ x3.span.frm >>= fun r5 =>
   if out.length + r5.length ≤ 2 ^ 62 then
    q7q f s x3 >>= fun v8 =>
    if (out ++ r5).length + v8.length ≤ 2 ^ 62 then
     if (decide ((((out ++ r5) ++ v8).length : Int) > 65536)) then
      some (.inl (([] : Bytes),0,4,((out ++ r5) ++ v8),x3.span.to))
     else
      qas (s,ms,left,((out ++ r5) ++ v8),x3.span.to,(IntKind.i64.wrap (i + 1)),f,b1_)
    else none
   else none
  else
   some (.inr (out,at_))
 partial_fixpoint
def q49 (f : T.Form) (s : Bytes) (fuel : Int) : Option ((Bytes × Int × Int)) :=
 q8m f >>= fun v2 =>
 if (!v2) then
  some (([] : Bytes),0,10)
 else
 if f.all then
  qct f.rx f.fold s fuel >>= fun v6 =>
  if (v6.2.2 != 0) then
   some (([] : Bytes),0,v6.2.2)
  else
  if ((v6.1.l.length : Int) == 0) then
   some (s,v6.2.1,0)
  else
   q4r (s,v6.1,v6.2.1,([] : Bytes),0,0,f) >>= fun v10 =>
   match v10 with
   | .inl y11 =>
    some (y11.1,y11.2.1,y11.2.2.1)
   | .inr y12 =>
    if (decide ((IntKind.i64.wrap ((IntKind.i64.wrap ((y12.1.length : Int) + (s.length : Int))) - y12.2)) > 65536)) then
     some (([] : Bytes),0,4)
    else
     jf s y12.2 >>= fun r15 =>
     if y12.1.length + r15.length ≤ 2 ^ 62 then
      some ((y12.1 ++ r15),v6.2.1,0)
     else none
 else
  qa7 f.rx f.fold s 0 fuel >>= fun v18 =>
  if v18.2.2.1 then
   if qj (1) 40 = true then
    if (v18.2.2.2 != 0) then
     some (([] : Bytes),0,v18.2.2.2)
    else
    if (((1 : Nat) : Int) == 0) then
     some (s,v18.2.1,0)
    else
     q5e (s,v18.2.1,([] : Bytes),0,0,f,v18.1,[v18.1],[v18.1]) >>= fun v24 =>
     match v24 with
     | .inl y25 =>
      some (y25.1,y25.2.1,y25.2.2.1)
     | .inr y26 =>
      if (decide ((IntKind.i64.wrap ((IntKind.i64.wrap ((y26.1.length : Int) + (s.length : Int))) - y26.2)) > 65536)) then
       some (([] : Bytes),0,4)
      else
       jf s y26.2 >>= fun r29 =>
       if y26.1.length + r29.length ≤ 2 ^ 62 then
        some ((y26.1 ++ r29),v18.2.1,0)
       else none
   else none
  else
  if (v18.2.2.2 != 0) then
   some (([] : Bytes),0,v18.2.2.2)
  else
  if (((0 : Nat) : Int) == 0) then
   some (s,v18.2.1,0)
  else
   qas (s,(⟨true,([] : List T.qp)⟩ : Sl T.qp),v18.2.1,([] : Bytes),0,0,f,v18.1) >>= fun v34 =>
   match v34 with
   | .inl y35 =>
    some (y35.1,y35.2.1,y35.2.2.1)
   | .inr y36 =>
    if (decide ((IntKind.i64.wrap ((IntKind.i64.wrap ((y36.1.length : Int) + (s.length : Int))) - y36.2)) > 65536)) then
     some (([] : Bytes),0,4)
    else
     jf s y36.2 >>= fun r39 =>
     if y36.1.length + r39.length ≤ 2 ^ 62 then
      some ((y36.1 ++ r39),v18.2.1,0)
     else none
mutual
def q00 : (Int × (Sl T.qi) × Bytes × Bytes × (List T.qf) × (List Int) × (List Bytes) × (List Int) × (List Bytes)) → Option ((Bytes × Int × (Sl T.qi) × Bytes × Bytes × (List T.qf) × (List Int) × (List Bytes) × (List Int) × (List Bytes)))
 | (i,b,b_2,b_3,r_,r_2,r_3,r_4,r_5) =>
  qd r_ i >>= fun x2 =>
  if (x2.kind == 1) then
   qd0 x2.n r_4 r_5 >>= fun v5 =>
   if (decide (v5 < 0)) then
    q8a (x2.n,b,b_2,b_3,r_,r_2,r_3,r_4,r_5) >>= fun v8 =>
    if (v8.2.1 != 0) then
     some (([] : Bytes),v8.2.1,v8.2.2.1,v8.2.2.2.1,v8.2.2.2.2.1,v8.2.2.2.2.2.1,v8.2.2.2.2.2.2.1,v8.2.2.2.2.2.2.2.1,v8.2.2.2.2.2.2.2.2.1,v8.2.2.2.2.2.2.2.2.2)
    else
     if qj (v8.2.2.2.2.2.2.2.2.1.length + 1) 8 = true then
      if qj (v8.2.2.2.2.2.2.2.2.2.length + 1) 16 = true then
       qd (v8.2.2.2.2.2.2.2.2.2 ++ [v8.1]) (IntKind.i64.wrap (((v8.2.2.2.2.2.2.2.2.2 ++ [v8.1]).length : Int) - 1)) >>= fun x13 =>
       if x2.turned then
        q49 x2.form x13 20000 >>= fun v16 =>
        some (v16.1,v16.2.2,v8.2.2.1,v8.2.2.2.1,v8.2.2.2.2.1,v8.2.2.2.2.2.1,v8.2.2.2.2.2.2.1,v8.2.2.2.2.2.2.2.1,(v8.2.2.2.2.2.2.2.2.1 ++ [x2.n]),(v8.2.2.2.2.2.2.2.2.2 ++ [v8.1]))
       else
        some (x13,0,v8.2.2.1,v8.2.2.2.1,v8.2.2.2.2.1,v8.2.2.2.2.2.1,v8.2.2.2.2.2.2.1,v8.2.2.2.2.2.2.2.1,(v8.2.2.2.2.2.2.2.2.1 ++ [x2.n]),(v8.2.2.2.2.2.2.2.2.2 ++ [v8.1]))
      else none
     else none
   else
    qd r_5 v5 >>= fun x18 =>
    if x2.turned then
     q49 x2.form x18 20000 >>= fun v21 =>
     some (v21.1,v21.2.2,b,b_2,b_3,r_,r_2,r_3,r_4,r_5)
    else
     some (x18,0,b,b_2,b_3,r_,r_2,r_3,r_4,r_5)
  else
  if x2.turned then
   q49 x2.form x2.text 20000 >>= fun v24 =>
   some (v24.1,v24.2.2,b,b_2,b_3,r_,r_2,r_3,r_4,r_5)
  else
   some (x2.text,0,b,b_2,b_3,r_,r_2,r_3,r_4,r_5)
 partial_fixpoint
def q8a : (Int × (Sl T.qi) × Bytes × Bytes × (List T.qf) × (List Int) × (List Bytes) × (List Int) × (List Bytes)) → Option ((Bytes × Int × (Sl T.qi) × Bytes × Bytes × (List T.qf) × (List Int) × (List Bytes) × (List Int) × (List Bytes)))
 | (n,b,b_2,b_3,r_,r_2,r_3,r_4,r_5) =>
  q7b n b b_2 b_3 r_ r_2 r_3 >>= fun v2 =>
  if (decide (v2 < 0)) then
   some (([] : Bytes),0,b,b_2,b_3,r_,r_2,r_3,r_4,r_5)
  else
   qd r_ v2 >>= fun x5 =>
   if (decide ((x5.opts.l.length : Int) > 0)) then
    qd x5.opts.l 0 >>= fun x8 =>
    if (decide ((x8.length : Int) > 65536)) then
     some (([] : Bytes),4,b,b_2,b_3,r_,r_2,r_3,r_4,r_5)
    else
     some (x8,0,b,b_2,b_3,r_,r_2,r_3,r_4,r_5)
   else
    qd4 ((IntKind.i64.wrap (v2 + 1)),x5.end_,b,b_2,b_3,r_,r_2,r_3,r_4,r_5) >>= fun v11 =>
    some (v11.1,v11.2.1,v11.2.2.1,v11.2.2.2.1,v11.2.2.2.2.1,v11.2.2.2.2.2.1,v11.2.2.2.2.2.2.1,v11.2.2.2.2.2.2.2.1,v11.2.2.2.2.2.2.2.2.1,v11.2.2.2.2.2.2.2.2.2)
 partial_fixpoint
def qd4 : (Int × Int × (Sl T.qi) × Bytes × Bytes × (List T.qf) × (List Int) × (List Bytes) × (List Int) × (List Bytes)) → Option ((Bytes × Int × (Sl T.qi) × Bytes × Bytes × (List T.qf) × (List Int) × (List Bytes) × (List Int) × (List Bytes)))
 | (frm,to,b,b_2,b_3,r_,r_2,r_3,r_4,r_5) =>
  q55 (to,([] : Bytes),frm,b,b_2,b_3,r_,r_2,r_3,r_4,r_5) >>= fun v2 =>
  match v2 with
  | .inl y3 =>
   some (y3.1,y3.2.1,y3.2.2.2.1,y3.2.2.2.2.1,y3.2.2.2.2.2.1,y3.2.2.2.2.2.2.1,y3.2.2.2.2.2.2.2.1,y3.2.2.2.2.2.2.2.2.1,y3.2.2.2.2.2.2.2.2.2.1,y3.2.2.2.2.2.2.2.2.2.2)
  | .inr y4 =>
   some (y4.1,0,y4.2.1,y4.2.2.1,y4.2.2.2.1,y4.2.2.2.2.1,y4.2.2.2.2.2.1,y4.2.2.2.2.2.2.1,y4.2.2.2.2.2.2.2.1,y4.2.2.2.2.2.2.2.2)
 partial_fixpoint
def q55 : (Int × Bytes × Int × (Sl T.qi) × Bytes × Bytes × (List T.qf) × (List Int) × (List Bytes) × (List Int) × (List Bytes)) → Option (((Bytes × Int × Bytes × (Sl T.qi) × Bytes × Bytes × (List T.qf) × (List Int) × (List Bytes) × (List Int) × (List Bytes)) ⊕ (Bytes × (Sl T.qi) × Bytes × Bytes × (List T.qf) × (List Int) × (List Bytes) × (List Int) × (List Bytes))))
 | (to,s,i,w,w2,w3,r2_,r3_,r4_,r5_,r6_) =>
  if (decide (i < to)) then
   q00 (i,w,w2,w3,r2_,r3_,r4_,r5_,r6_) >>= fun v3 =>
   if (v3.2.1 != 0) then
    some (.inl (([] : Bytes),v3.2.1,s,v3.2.2.1,v3.2.2.2.1,v3.2.2.2.2.1,v3.2.2.2.2.2.1,v3.2.2.2.2.2.2.1,v3.2.2.2.2.2.2.2.1,v3.2.2.2.2.2.2.2.2.1,v3.2.2.2.2.2.2.2.2.2))
   else
    if s.length + v3.1.length ≤ 2 ^ 62 then
     if (decide (((s ++ v3.1).length : Int) > 65536)) then
      some (.inl (([] : Bytes),4,(s ++ v3.1),v3.2.2.1,v3.2.2.2.1,v3.2.2.2.2.1,v3.2.2.2.2.2.1,v3.2.2.2.2.2.2.1,v3.2.2.2.2.2.2.2.1,v3.2.2.2.2.2.2.2.2.1,v3.2.2.2.2.2.2.2.2.2))
     else
      qd v3.2.2.2.2.2.1 i >>= fun x8 =>
      q55 (to,(s ++ v3.1),x8.end_,v3.2.2.1,v3.2.2.2.1,v3.2.2.2.2.1,v3.2.2.2.2.2.1,v3.2.2.2.2.2.2.1,v3.2.2.2.2.2.2.2.1,v3.2.2.2.2.2.2.2.2.1,v3.2.2.2.2.2.2.2.2.2)
    else none
  else
   some (.inr (s,w,w2,w3,r2_,r3_,r4_,r5_,r6_))
 partial_fixpoint
end
def q5q : (Int × Bytes × Int × (Sl T.qi) × Bytes × Bytes × (List T.qf) × (List Int) × (List Bytes) × (List Int) × (List Bytes)) → Option (((Bytes × Int × Bytes × (Sl T.qi) × Bytes × Bytes × (List T.qf) × (List Int) × (List Bytes) × (List Int) × (List Bytes)) ⊕ (Bytes × (Sl T.qi) × Bytes × Bytes × (List T.qf) × (List Int) × (List Bytes) × (List Int) × (List Bytes))))
 | (to,s,i,w,w2,w3,r2_,r3_,r4_,r5_,r6_) =>
  if (decide (i < to)) then
   q00 (i,w,w2,w3,r2_,r3_,r4_,r5_,r6_) >>= fun v3 =>
   if (v3.2.1 != 0) then
    some (.inl (([] : Bytes),v3.2.1,s,v3.2.2.1,v3.2.2.2.1,v3.2.2.2.2.1,v3.2.2.2.2.2.1,v3.2.2.2.2.2.2.1,v3.2.2.2.2.2.2.2.1,v3.2.2.2.2.2.2.2.2.1,v3.2.2.2.2.2.2.2.2.2))
   else
    if s.length + v3.1.length ≤ 2 ^ 62 then
     if (decide (((s ++ v3.1).length : Int) > 65536)) then
      some (.inl (([] : Bytes),4,(s ++ v3.1),v3.2.2.1,v3.2.2.2.1,v3.2.2.2.2.1,v3.2.2.2.2.2.1,v3.2.2.2.2.2.2.1,v3.2.2.2.2.2.2.2.1,v3.2.2.2.2.2.2.2.2.1,v3.2.2.2.2.2.2.2.2.2))
     else
      qd v3.2.2.2.2.2.1 i >>= fun x8 =>
      q5q (to,(s ++ v3.1),x8.end_,v3.2.2.1,v3.2.2.2.1,v3.2.2.2.2.1,v3.2.2.2.2.2.1,v3.2.2.2.2.2.2.1,v3.2.2.2.2.2.2.2.1,v3.2.2.2.2.2.2.2.2.1,v3.2.2.2.2.2.2.2.2.2)
    else none
  else
   some (.inr (s,w,w2,w3,r2_,r3_,r4_,r5_,r6_))
 partial_fixpoint
def qam (frm : Int) (to : Int) (b : (Sl T.qi)) (b_2 : Bytes) (b_3 : Bytes) (r_ : (List T.qf)) (r_2 : (List Int)) (r_3 : (List Bytes)) : Option ((Bytes × Int × (Sl T.qi) × Bytes × Bytes × (List T.qf) × (List Int) × (List Bytes) × (List Int) × (List Bytes))) :=
 q5q (to,([] : Bytes),frm,b,b_2,b_3,r_,r_2,r_3,([] : List Int),([] : List Bytes)) >>= fun v2 =>
 match v2 with
 | .inl y3 =>
  some (y3.1,y3.2.1,y3.2.2.2.1,y3.2.2.2.2.1,y3.2.2.2.2.2.1,y3.2.2.2.2.2.2.1,y3.2.2.2.2.2.2.2.1,y3.2.2.2.2.2.2.2.2.1,y3.2.2.2.2.2.2.2.2.2.1,y3.2.2.2.2.2.2.2.2.2.2)
 | .inr y4 =>
  some (y4.1,0,y4.2.1,y4.2.2.1,y4.2.2.2.1,y4.2.2.2.2.1,y4.2.2.2.2.2.1,y4.2.2.2.2.2.2.1,y4.2.2.2.2.2.2.2.1,y4.2.2.2.2.2.2.2.2)
mutual
def tq : (Int × Int × Int × (Sl T.qi) × Bytes × Bytes × (List T.Stop) × (List Int) × (List T.qf) × (List Int) × (List Bytes) × (List Int) × (List Bytes)) → Option ((Int × (Sl T.qi) × Bytes × Bytes × (List T.Stop) × (List Int) × (List T.qf) × (List Int) × (List Bytes) × (List Int) × (List Bytes)))
 | (frm,to,at_,b,b_2,b_3,r_,r_2,r_3,r_4,r_5,r_6,r_7) =>
  bn (to,at_,frm,b,b_2,b_3,r_,r_2,r_3,r_4,r_5,r_6,r_7) >>= fun v2 =>
  some (v2.1,v2.2.1,v2.2.2.1,v2.2.2.2.1,v2.2.2.2.2.1,v2.2.2.2.2.2.1,v2.2.2.2.2.2.2.1,v2.2.2.2.2.2.2.2.1,v2.2.2.2.2.2.2.2.2.1,v2.2.2.2.2.2.2.2.2.2.1,v2.2.2.2.2.2.2.2.2.2.2)
 partial_fixpoint
def bn : (Int × Int × Int × (Sl T.qi) × Bytes × Bytes × (List T.Stop) × (List Int) × (List T.qf) × (List Int) × (List Bytes) × (List Int) × (List Bytes)) → Option ((Int × (Sl T.qi) × Bytes × Bytes × (List T.Stop) × (List Int) × (List T.qf) × (List Int) × (List Bytes) × (List Int) × (List Bytes)))
 | (to,at_,i,w,w2,w3,out,place,r4_,r5_,r6_,r7_,r8_) =>
  if (decide (i < to)) then
   qd r4_ i >>= fun x3 =>
   q00 (i,w,w2,w3,r4_,r5_,r6_,r7_,r8_) >>= fun v5 =>
   if (x3.kind == 1) then
    if (decide (x3.up ≥ 0)) then
     qd place x3.up >>= fun x9 =>
     qd place i >>= fun x11 =>
     if qj (out.length + 1) 200 = true then
      if x3.def_ then
       tq ((IntKind.i64.wrap (i + 1)),x3.end_,at_,v5.2.2.1,v5.2.2.2.1,v5.2.2.2.2.1,(out ++ [(T.Stop.mk (T.Span.mk at_ (IntKind.i64.wrap (at_ + (v5.1.length : Int)))) x3.n x9 x3.first x3.turned x3.form x3.opts)]),(place.set i.toNat (out.length : Int)),v5.2.2.2.2.2.1,v5.2.2.2.2.2.2.1,v5.2.2.2.2.2.2.2.1,v5.2.2.2.2.2.2.2.2.1,v5.2.2.2.2.2.2.2.2.2) >>= fun v15 =>
       qd v15.2.2.2.2.2.2.1 i >>= fun x17 =>
       bn (to,(IntKind.i64.wrap (at_ + (v5.1.length : Int))),x17.end_,v15.2.1,v15.2.2.1,v15.2.2.2.1,v15.2.2.2.2.1,v15.2.2.2.2.2.1,v15.2.2.2.2.2.2.1,v15.2.2.2.2.2.2.2.1,v15.2.2.2.2.2.2.2.2.1,v15.2.2.2.2.2.2.2.2.2.1,v15.2.2.2.2.2.2.2.2.2.2)
      else
       qd v5.2.2.2.2.2.1 i >>= fun x19 =>
       bn (to,(IntKind.i64.wrap (at_ + (v5.1.length : Int))),x19.end_,v5.2.2.1,v5.2.2.2.1,v5.2.2.2.2.1,(out ++ [(T.Stop.mk (T.Span.mk at_ (IntKind.i64.wrap (at_ + (v5.1.length : Int)))) x3.n x9 x3.first x3.turned x3.form x3.opts)]),(place.set i.toNat (out.length : Int)),v5.2.2.2.2.2.1,v5.2.2.2.2.2.2.1,v5.2.2.2.2.2.2.2.1,v5.2.2.2.2.2.2.2.2.1,v5.2.2.2.2.2.2.2.2.2)
     else none
    else
     qd place i >>= fun x21 =>
     if qj (out.length + 1) 200 = true then
      if x3.def_ then
       tq ((IntKind.i64.wrap (i + 1)),x3.end_,at_,v5.2.2.1,v5.2.2.2.1,v5.2.2.2.2.1,(out ++ [(T.Stop.mk (T.Span.mk at_ (IntKind.i64.wrap (at_ + (v5.1.length : Int)))) x3.n (-1) x3.first x3.turned x3.form x3.opts)]),(place.set i.toNat (out.length : Int)),v5.2.2.2.2.2.1,v5.2.2.2.2.2.2.1,v5.2.2.2.2.2.2.2.1,v5.2.2.2.2.2.2.2.2.1,v5.2.2.2.2.2.2.2.2.2) >>= fun v25 =>
       qd v25.2.2.2.2.2.2.1 i >>= fun x27 =>
       bn (to,(IntKind.i64.wrap (at_ + (v5.1.length : Int))),x27.end_,v25.2.1,v25.2.2.1,v25.2.2.2.1,v25.2.2.2.2.1,v25.2.2.2.2.2.1,v25.2.2.2.2.2.2.1,v25.2.2.2.2.2.2.2.1,v25.2.2.2.2.2.2.2.2.1,v25.2.2.2.2.2.2.2.2.2.1,v25.2.2.2.2.2.2.2.2.2.2)
      else
       qd v5.2.2.2.2.2.1 i >>= fun x29 =>
       bn (to,(IntKind.i64.wrap (at_ + (v5.1.length : Int))),x29.end_,v5.2.2.1,v5.2.2.2.1,v5.2.2.2.2.1,(out ++ [(T.Stop.mk (T.Span.mk at_ (IntKind.i64.wrap (at_ + (v5.1.length : Int)))) x3.n (-1) x3.first x3.turned x3.form x3.opts)]),(place.set i.toNat (out.length : Int)),v5.2.2.2.2.2.1,v5.2.2.2.2.2.2.1,v5.2.2.2.2.2.2.2.1,v5.2.2.2.2.2.2.2.2.1,v5.2.2.2.2.2.2.2.2.2)
     else none
   else
    qd v5.2.2.2.2.2.1 i >>= fun x31 =>
    bn (to,(IntKind.i64.wrap (at_ + (v5.1.length : Int))),x31.end_,v5.2.2.1,v5.2.2.2.1,v5.2.2.2.2.1,out,place,v5.2.2.2.2.2.1,v5.2.2.2.2.2.2.1,v5.2.2.2.2.2.2.2.1,v5.2.2.2.2.2.2.2.2.1,v5.2.2.2.2.2.2.2.2.2)
  else
   some (at_,w,w2,w3,out,place,r4_,r5_,r6_,r7_,r8_)
 partial_fixpoint
end
def bz : (Int × Int × Int × (Sl T.qi) × Bytes × Bytes × (List Int) × (List T.qf) × (List Int) × (List Bytes) × (List Int) × (List Bytes) × (List T.Stop)) → Option ((Int × (Sl T.qi) × Bytes × Bytes × (List Int) × (List T.qf) × (List Int) × (List Bytes) × (List Int) × (List Bytes) × (List T.Stop)))
 | (to,at_,i,w,w2,w3,place,r3_,r4_,r5_,r6_,r7_,out) =>
  if (decide (i < to)) then
   qd r3_ i >>= fun x3 =>
   q00 (i,w,w2,w3,r3_,r4_,r5_,r6_,r7_) >>= fun v5 =>
   if (x3.kind == 1) then
    if (decide (x3.up ≥ 0)) then
     qd place x3.up >>= fun x9 =>
     qd place i >>= fun x11 =>
     if qj (out.length + 1) 200 = true then
      if x3.def_ then
       tq ((IntKind.i64.wrap (i + 1)),x3.end_,at_,v5.2.2.1,v5.2.2.2.1,v5.2.2.2.2.1,(out ++ [(T.Stop.mk (T.Span.mk at_ (IntKind.i64.wrap (at_ + (v5.1.length : Int)))) x3.n x9 x3.first x3.turned x3.form x3.opts)]),(place.set i.toNat (out.length : Int)),v5.2.2.2.2.2.1,v5.2.2.2.2.2.2.1,v5.2.2.2.2.2.2.2.1,v5.2.2.2.2.2.2.2.2.1,v5.2.2.2.2.2.2.2.2.2) >>= fun v15 =>
       qd v15.2.2.2.2.2.2.1 i >>= fun x17 =>
       bz (to,(IntKind.i64.wrap (at_ + (v5.1.length : Int))),x17.end_,v15.2.1,v15.2.2.1,v15.2.2.2.1,v15.2.2.2.2.2.1,v15.2.2.2.2.2.2.1,v15.2.2.2.2.2.2.2.1,v15.2.2.2.2.2.2.2.2.1,v15.2.2.2.2.2.2.2.2.2.1,v15.2.2.2.2.2.2.2.2.2.2,v15.2.2.2.2.1)
      else
       qd v5.2.2.2.2.2.1 i >>= fun x19 =>
       bz (to,(IntKind.i64.wrap (at_ + (v5.1.length : Int))),x19.end_,v5.2.2.1,v5.2.2.2.1,v5.2.2.2.2.1,(place.set i.toNat (out.length : Int)),v5.2.2.2.2.2.1,v5.2.2.2.2.2.2.1,v5.2.2.2.2.2.2.2.1,v5.2.2.2.2.2.2.2.2.1,v5.2.2.2.2.2.2.2.2.2,(out ++ [(T.Stop.mk (T.Span.mk at_ (IntKind.i64.wrap (at_ + (v5.1.length : Int)))) x3.n x9 x3.first x3.turned x3.form x3.opts)]))
     else none
    else
     qd place i >>= fun x21 =>
     if qj (out.length + 1) 200 = true then
      if x3.def_ then
       tq ((IntKind.i64.wrap (i + 1)),x3.end_,at_,v5.2.2.1,v5.2.2.2.1,v5.2.2.2.2.1,(out ++ [(T.Stop.mk (T.Span.mk at_ (IntKind.i64.wrap (at_ + (v5.1.length : Int)))) x3.n (-1) x3.first x3.turned x3.form x3.opts)]),(place.set i.toNat (out.length : Int)),v5.2.2.2.2.2.1,v5.2.2.2.2.2.2.1,v5.2.2.2.2.2.2.2.1,v5.2.2.2.2.2.2.2.2.1,v5.2.2.2.2.2.2.2.2.2) >>= fun v25 =>
       qd v25.2.2.2.2.2.2.1 i >>= fun x27 =>
       bz (to,(IntKind.i64.wrap (at_ + (v5.1.length : Int))),x27.end_,v25.2.1,v25.2.2.1,v25.2.2.2.1,v25.2.2.2.2.2.1,v25.2.2.2.2.2.2.1,v25.2.2.2.2.2.2.2.1,v25.2.2.2.2.2.2.2.2.1,v25.2.2.2.2.2.2.2.2.2.1,v25.2.2.2.2.2.2.2.2.2.2,v25.2.2.2.2.1)
      else
       qd v5.2.2.2.2.2.1 i >>= fun x29 =>
       bz (to,(IntKind.i64.wrap (at_ + (v5.1.length : Int))),x29.end_,v5.2.2.1,v5.2.2.2.1,v5.2.2.2.2.1,(place.set i.toNat (out.length : Int)),v5.2.2.2.2.2.1,v5.2.2.2.2.2.2.1,v5.2.2.2.2.2.2.2.1,v5.2.2.2.2.2.2.2.2.1,v5.2.2.2.2.2.2.2.2.2,(out ++ [(T.Stop.mk (T.Span.mk at_ (IntKind.i64.wrap (at_ + (v5.1.length : Int)))) x3.n (-1) x3.first x3.turned x3.form x3.opts)]))
     else none
   else
    qd v5.2.2.2.2.2.1 i >>= fun x31 =>
    bz (to,(IntKind.i64.wrap (at_ + (v5.1.length : Int))),x31.end_,v5.2.2.1,v5.2.2.2.1,v5.2.2.2.2.1,place,v5.2.2.2.2.2.1,v5.2.2.2.2.2.2.1,v5.2.2.2.2.2.2.2.1,v5.2.2.2.2.2.2.2.2.1,v5.2.2.2.2.2.2.2.2.2,out)
  else
   some (at_,w,w2,w3,place,r3_,r4_,r5_,r6_,r7_,out)
 partial_fixpoint
def qc7 (frm : Int) (to : Int) (at_ : Int) (b : (Sl T.qi)) (b_2 : Bytes) (b_3 : Bytes) (r_ : (List Int)) (r_2 : (List T.qf)) (r_3 : (List Int)) (r_4 : (List Bytes)) (r_5 : (List Int)) (r_6 : (List Bytes)) : Option ((Int × (Sl T.qi) × Bytes × Bytes × (List Int) × (List T.qf) × (List Int) × (List Bytes) × (List Int) × (List Bytes) × (List T.Stop))) :=
 bz (to,at_,frm,b,b_2,b_3,r_,r_2,r_3,r_4,r_5,r_6,([] : List T.Stop)) >>= fun v2 =>
 some (v2.1,v2.2.1,v2.2.2.1,v2.2.2.2.1,v2.2.2.2.2.1,v2.2.2.2.2.2.1,v2.2.2.2.2.2.2.1,v2.2.2.2.2.2.2.2.1,v2.2.2.2.2.2.2.2.2.1,v2.2.2.2.2.2.2.2.2.2.1,v2.2.2.2.2.2.2.2.2.2.2)
def q2j : (Bytes × Bool × Int × (Sl T.qi) × Bytes × Bytes × (List T.qf) × (List Int) × (List Bytes) × (List Int) × (List Bytes) × (List Int) × (List T.Stop)) → Option ((Bool))
 | (s,zero,i,b0_,b0_2,b0_3,r1_,r2_,r3_,r5_,r6_,r7_,stops) =>
  if (decide (i < (stops.length : Int))) then
   if zero then
    q2j (s,true,(IntKind.i64.wrap (i + 1)),b0_,b0_2,b0_3,r1_,r2_,r3_,r5_,r6_,r7_,stops)
   else
    qd stops i >>= fun x4 =>
    if (x4.n == 0) then
     q2j (s,(!x4.turned),(IntKind.i64.wrap (i + 1)),b0_,b0_2,b0_3,r1_,r2_,r3_,r5_,r6_,r7_,stops)
    else
     q2j (s,false,(IntKind.i64.wrap (i + 1)),b0_,b0_2,b0_3,r1_,r2_,r3_,r5_,r6_,r7_,stops)
  else
   some zero
 partial_fixpoint
def q9y (l : (Sl T.qc)) (env : (Sl T.qi)) (lead : Bytes) (unit : Bytes) : Option ((Bytes × (Sl T.Stop) × Int)) :=
 qcr l >>= fun v2 =>
 if (!v2) then
  some (([] : Bytes),(⟨true,([] : List T.Stop)⟩ : Sl T.Stop),10)
 else
  qa4 l (-1) env lead unit >>= fun v5 =>
  qa3 v5.1 v5.2.1 v5.2.2.1 v5.2.2.2.1 v5.2.2.2.2.1 v5.2.2.2.2.2 >>= fun v7 =>
  qcc v5.1 v5.2.1 v5.2.2.1 v7 v5.2.2.2.2.1 v5.2.2.2.2.2 >>= fun v9 =>
  if v9 then
   some (([] : Bytes),(⟨true,([] : List T.Stop)⟩ : Sl T.Stop),11)
  else
   q38 (0,0,v5.1,v5.2.1,v5.2.2.1,v7,v5.2.2.2.2.1,v5.2.2.2.2.2) >>= fun v12 =>
   if (decide (v12 > 256)) then
    some (([] : Bytes),(⟨true,([] : List T.Stop)⟩ : Sl T.Stop),7)
   else
    qam 0 (v7.length : Int) v5.1 v5.2.1 v5.2.2.1 v7 v5.2.2.2.2.1 v5.2.2.2.2.2 >>= fun v15 =>
    if (v15.2.1 != 0) then
     some (([] : Bytes),(⟨true,([] : List T.Stop)⟩ : Sl T.Stop),v15.2.1)
    else
     if 0 ≤ (v15.2.2.2.2.2.1.length : Int) then
      if qj (v15.2.2.2.2.2.1.length : Int).toNat 8 = true then
       qc7 0 (v15.2.2.2.2.2.1.length : Int) 0 v15.2.2.1 v15.2.2.2.1 v15.2.2.2.2.1 (List.replicate (v15.2.2.2.2.2.1.length : Int).toNat 0) v15.2.2.2.2.2.1 v15.2.2.2.2.2.2.1 v15.2.2.2.2.2.2.2.1 v15.2.2.2.2.2.2.2.2.1 v15.2.2.2.2.2.2.2.2.2 >>= fun v20 =>
       q2j (v15.1,false,0,v20.2.1,v20.2.2.1,v20.2.2.2.1,v20.2.2.2.2.2.1,v20.2.2.2.2.2.2.1,v20.2.2.2.2.2.2.2.1,v20.2.2.2.2.2.2.2.2.1,v20.2.2.2.2.2.2.2.2.2.1,v20.2.2.2.2.1,v20.2.2.2.2.2.2.2.2.2.2) >>= fun v22 =>
       if (!v22) then
        if qj (v20.2.2.2.2.2.2.2.2.2.2.length + 1) 200 = true then
         some (v15.1,(⟨false,(v20.2.2.2.2.2.2.2.2.2.2 ++ [(T.Stop.mk (T.Span.mk (v15.1.length : Int) (v15.1.length : Int)) 0 (-1) true false (T.Form.mk (T.Rx.mk 0 ([] : Bytes) false (⟨true,[]⟩ : (Sl T.Row)) 0 0 false (⟨true,[]⟩ : (Sl T.Rx))) (⟨true,[]⟩ : (Sl T.Fmt)) false false) (⟨true,[]⟩ : (Sl Bytes)))])⟩ : Sl T.Stop),0)
        else none
       else
        some (v15.1,(⟨v20.2.2.2.2.2.2.2.2.2.2.isEmpty,v20.2.2.2.2.2.2.2.2.2.2⟩ : Sl T.Stop),0)
      else none
     else none
def q5b : (Int × (Sl T.Stop) × Int × T.za × Int × Int × (List T.Stop)) → Option (((List T.Stop)))
 | (at_,p_,i,t4,in_,in_2,r2_) =>
  if (decide (i < (p_.l.length : Int))) then
   qd p_.l i >>= fun x3 =>
   if qj (r2_.length + 1) 200 = true then
    q5b (at_,p_,(IntKind.i64.wrap (i + 1)),t4,in_,in_2,(r2_ ++ [(T.Stop.mk (T.Span.mk (IntKind.i64.wrap (x3.span.frm + at_)) (IntKind.i64.wrap (x3.span.to + at_))) x3.n x3.up x3.first x3.turned x3.form x3.opts)]))
   else none
  else
   some r2_
 partial_fixpoint
def q81 (s : Bytes) (at_ : Int) : Option ((T.za × Bool)) :=
 qbx s >>= fun v2 =>
 q9y v2.1 (⟨true,([] : List T.qi)⟩ : Sl T.qi) ([] : Bytes) ([] : Bytes) >>= fun v4 =>
 if ((v2.2 != 0) || (v4.2.2 != 0)) then
  some ((T.za.mk (T.Span.mk 0 0) (⟨true,([] : List T.Stop)⟩ : (Sl T.Stop))),false)
 else
  q5b (at_,v4.2.1,0,(T.za.mk (T.Span.mk 0 0) (⟨true,([] : List T.Stop)⟩ : (Sl T.Stop))),at_,(IntKind.i64.wrap (at_ + (v4.1.length : Int))),([] : List T.Stop)) >>= fun v8 =>
  some ((T.za.mk (T.Span.mk at_ (IntKind.i64.wrap (at_ + (v4.1.length : Int)))) (⟨v8.isEmpty,v8⟩ : (Sl T.Stop))),true)
def q5s : ((Sl T.Stop) × Int × Int × T.za × zg) → Option ((zg))
 | (t12,t13,t14,i,left) =>
  if (decide (t14 < t13)) then
   qd t12.l t14 >>= fun x3 =>
   q5s (t12,t13,(IntKind.i64.wrap (t14 + 1)),i,(wo left x3.n (IntKind.i64.wrap ((je left x3.n) + 1))))
  else
   some left
 partial_fixpoint
def qex (m : zg) : Option ((Unit)) :=
 some ()
def q28 (i : T.za) (k : Int) : Option ((Int)) :=
 qd i.stops.l k >>= fun x2 =>
 if ((decide (x2.up ≥ 0)) && (decide (x2.up < k))) then
  some x2.up
 else
  some (-1)
def mg : (Int × (Sl T.Stop) × Int × Int × zg × T.za × zg × T.Stop) → Option ((zg))
 | (u,t12,t13,t14,left,i,out,s) =>
  if (decide (u ≥ 0)) then
   qd i.stops.l u >>= fun x3 =>
   if (x3.n != s.n) then
    q28 i u >>= fun v6 =>
    mg (v6,t12,t13,t14,left,i,(wo out x3.n (IntKind.i64.wrap ((je out x3.n) + 1))),s)
   else
    q28 i u >>= fun v8 =>
    mg (v8,t12,t13,t14,left,i,out,s)
  else
   some out
 partial_fixpoint
def q3a : ((Sl T.Stop) × Int × Int × zg × T.za × zg) → Option ((zg))
 | (t12,t13,t14,left,i,out) =>
  if (decide (t14 < t13)) then
   qd t12.l t14 >>= fun x3 =>
   if ((je left x3.n) == 0) then
    q3a (t12,t13,(IntKind.i64.wrap (t14 + 1)),left,i,out)
   else
    q28 i t14 >>= fun v6 =>
    mg (v6,t12,t13,t14,left,i,out,x3) >>= fun v8 =>
    q3a (t12,t13,(IntKind.i64.wrap (t14 + 1)),left,i,v8)
  else
   some out
 partial_fixpoint
def qa8 (i : T.za) (m : zg) : Option ((zg)) :=
 q3a (i.stops,(i.stops.l.length : Int),0,m,i,(⟨[],0⟩ : zg)) >>= fun v2 =>
 some v2
def qe8 (n : Int) (m : zg) : Option ((Bool)) :=
 some ((je m n) == 0)
def q3o : ((Sl Int) × Int × Int × zg) → Option (((Int) ⊕ (Unit)))
 | (s,t7,t8,m1) =>
  if (decide (t8 < t7)) then
   qd s.l t8 >>= fun x3 =>
   qe8 x3 m1 >>= fun v5 =>
   if v5 then
    some (.inl t8)
   else
    q3o (s,t7,(IntKind.i64.wrap (t8 + 1)),m1)
  else
   some (.inr ())
 partial_fixpoint
def qco (s : (Sl Int)) (m : zg) : Option ((Int)) :=
 q3o (s,(s.l.length : Int),0,m) >>= fun v2 =>
 match v2 with
 | .inl y3 =>
  some y3
 | .inr y4 =>
  some (-1)
def q4n : (T.za × zg × (List Int)) → Option ((zg × (List Int)))
 | (i,left,out) =>
  if (decide ((left.es.length : Int) > 0)) then
   qex left >>= fun v3 =>
   q66 left >>= fun v5 =>
   qa8 i left >>= fun v7 =>
   qco (⟨v5.isEmpty,v5⟩ : Sl Int) v7 >>= fun v9 =>
   qd v5 (if v9 > 0 then v9 else 0) >>= fun x11 =>
   if qj (out.length + 1) 8 = true then
    q4n (i,(mf left x11),(out ++ [x11]))
   else none
  else
   some (left,out)
 partial_fixpoint
def qaw (i : T.za) : Option (((Sl Int))) :=
 q5s (i.stops,(i.stops.l.length : Int),0,i,(⟨[],0⟩ : zg)) >>= fun v2 =>
 q4n (i,v2,([] : List Int)) >>= fun v4 =>
 some (⟨v4.2.isEmpty,v4.2⟩ : Sl Int)
def q4p : ((Sl Int) × Int × Int) → Option ((Int))
 | (ns,n,k) =>
  if (decide (k < (ns.l.length : Int))) then
   qd ns.l k >>= fun x3 =>
   if (decide (x3 < n)) then
    q4p (ns,n,(IntKind.i64.wrap (k + 1)))
   else
    some k
  else
   some k
 partial_fixpoint
def qbc (ns : (Sl Int)) (n : Int) : Option (((Sl Int))) :=
 q4p (ns,n,0) >>= fun v2 =>
 if (decide (v2 < (ns.l.length : Int))) then
  qd ns.l v2 >>= fun x5 =>
  if (x5 == n) then
   some ns
  else
   yh ns.l v2 >>= fun r8 =>
   if qj (r8.length) 8 = true then
    if qj (r8.length + 1) 8 = true then
     jf ns.l v2 >>= fun r12 =>
     if qj ((r8 ++ [n]).length + r12.length) 8 = true then
      some (⟨false,((r8 ++ [n]) ++ r12)⟩ : Sl Int)
     else none
    else none
   else none
 else
  yh ns.l v2 >>= fun r15 =>
  if qj (r15.length) 8 = true then
   if qj (r15.length + 1) 8 = true then
    jf ns.l v2 >>= fun r19 =>
    if qj ((r15 ++ [n]).length + r19.length) 8 = true then
     some (⟨false,((r15 ++ [n]) ++ r19)⟩ : Sl Int)
    else none
   else none
  else none
def q4m : ((Sl Int) × Int × T.za) → Option (((Sl Int)))
 | (all_,k,i) =>
  if (decide (k < (i.stops.l.length : Int))) then
   qd i.stops.l k >>= fun x3 =>
   qbc all_ x3.n >>= fun v5 =>
   q4m (v5,(IntKind.i64.wrap (k + 1)),i)
  else
   some all_
 partial_fixpoint
def q4b : (Int × Int × (List Int)) → Option (((Bool) ⊕ (Unit)))
 | (n,i,l) =>
  if (decide (i < (l.length : Int))) then
   qd l i >>= fun x3 =>
   if (x3 == n) then
    some (.inl true)
   else
    q4b (n,(IntKind.i64.wrap (i + 1)),l)
  else
   some (.inr ())
 partial_fixpoint
def q7c (n : Int) (r_ : (List Int)) : Option ((Bool)) :=
 q4b (n,0,r_) >>= fun v2 =>
 match v2 with
 | .inl y3 =>
  some y3
 | .inr y4 =>
  some false
def q69 : ((Sl T.Stop) × Int × Int) → Option (((Bool) ⊕ (Unit)))
 | (l,a,b) =>
  if ((decide (a ≥ 0)) && (decide (a < (l.l.length : Int)))) then
   qd l.l a >>= fun x4 =>
   if (decide (x4.up ≥ 0)) then
    if (decide (x4.up < a)) then
     if (x4.up == b) then
      some (.inl true)
     else
      q69 (l,x4.up,b)
    else
     some (.inr ())
   else
    some (.inr ())
  else
   some (.inr ())
 partial_fixpoint
def qb7 (l : (Sl T.Stop)) (a : Int) (b : Int) : Option ((Bool)) :=
 q69 (l,a,b) >>= fun v2 =>
 match v2 with
 | .inl y3 =>
  some y3
 | .inr y4 =>
  some false
def q37 : ((Sl T.Stop) × Int × Int × Int × (List Int)) → Option (((Bool) ⊕ (Unit)))
 | (l,n,a,b,told) =>
  if (decide (b < (l.l.length : Int))) then
   qd l.l b >>= fun x3 =>
   if (x3.n == n) then
    qb7 l a b >>= fun v6 =>
    if v6 then
     some (.inl false)
    else
     q37 (l,n,a,(IntKind.i64.wrap (b + 1)),told)
   else
    q37 (l,n,a,(IntKind.i64.wrap (b + 1)),told)
  else
   some (.inr ())
 partial_fixpoint
def q2c : ((Sl T.Stop) × Int × Int × (List Int)) → Option (((Bool) ⊕ (Unit)))
 | (l,n,a,told) =>
  if (decide (a < (l.l.length : Int))) then
   qd l.l a >>= fun x3 =>
   if (x3.n == n) then
    q2c (l,n,(IntKind.i64.wrap (a + 1)),told)
   else
    q7c x3.n told >>= fun v6 =>
    if v6 then
     q2c (l,n,(IntKind.i64.wrap (a + 1)),told)
    else
     q37 (l,n,a,0,told) >>= fun v9 =>
     match v9 with
     | .inl y10 =>
      some (.inl y10)
     | .inr y11 =>
      q2c (l,n,(IntKind.i64.wrap (a + 1)),told)
  else
   some (.inr ())
 partial_fixpoint
def q86 (l : (Sl T.Stop)) (n : Int) (r_ : (List Int)) : Option ((Bool)) :=
 q2c (l,n,0,r_) >>= fun v2 =>
 match v2 with
 | .inl y3 =>
  some y3
 | .inr y4 =>
  some true
def q0i : ((Sl Int) × Int × Bool × Int × T.za × (List Int)) → Option ((Int × Bool))
 | (all_,next,found,k,i,told) =>
  if ((decide (k < (all_.l.length : Int))) && (!found)) then
   qd all_.l k >>= fun x4 =>
   q7c x4 told >>= fun v6 =>
   if (!v6) then
    q86 i.stops x4 told >>= fun v9 =>
    if v9 then
     q0i (all_,x4,true,(IntKind.i64.wrap (k + 1)),i,told)
    else
     q0i (all_,next,found,(IntKind.i64.wrap (k + 1)),i,told)
   else
    q0i (all_,next,found,(IntKind.i64.wrap (k + 1)),i,told)
  else
   some (next,found)
 partial_fixpoint
def q04 : ((Sl Int) × Int × Bool × Int × T.za × (List Int)) → Option ((Int))
 | (all_,next,found,k,i,told) =>
  if ((decide (k < (all_.l.length : Int))) && (!found)) then
   qd all_.l k >>= fun x4 =>
   q7c x4 told >>= fun v6 =>
   if (!v6) then
    q04 (all_,x4,true,(IntKind.i64.wrap (k + 1)),i,told)
   else
    q04 (all_,next,found,(IntKind.i64.wrap (k + 1)),i,told)
  else
   some next
 partial_fixpoint
def q46 : ((Sl Int) × T.za × (List Int)) → Option (((List Int)))
 | (all_,i,told) =>
  if (decide ((told.length : Int) < (all_.l.length : Int))) then
   q0i (all_,0,false,0,i,told) >>= fun v3 =>
   q04 (all_,v3.1,v3.2,0,i,told) >>= fun v5 =>
   if qj (told.length + 1) 8 = true then
    q46 (all_,i,(told ++ [v5]))
   else none
  else
   some told
 partial_fixpoint
def qac (i : T.za) : Option (((Sl Int))) :=
 q4m ((⟨true,([] : List Int)⟩ : Sl Int),0,i) >>= fun v2 =>
 q46 (v2,i,([] : List Int)) >>= fun v4 =>
 some (⟨v4.isEmpty,v4⟩ : Sl Int)
def q4l : ((Sl Int) × (Sl Int) × Int) → Option (((Bool) ⊕ (Unit)))
 | (a,b,i) =>
  if (decide (i < (a.l.length : Int))) then
   qd a.l i >>= fun x3 =>
   qd b.l i >>= fun x5 =>
   if (x3 != x5) then
    some (.inl false)
   else
    q4l (a,b,(IntKind.i64.wrap (i + 1)))
  else
   some (.inr ())
 partial_fixpoint
def qca (a : (Sl Int)) (b : (Sl Int)) : Option ((Bool)) :=
 if ((a.l.length : Int) != (b.l.length : Int)) then
  some false
 else
  q4l (a,b,0) >>= fun v3 =>
  match v3 with
  | .inl y4 =>
   some y4
  | .inr y5 =>
   some true
def uw : ((Sl Int) × Int × Int × Int × Int × T.za) → Option (((Bool × Int × Int) ⊕ (Int × Int)))
 | (ns,i,mine,up,k,in_) =>
  if (decide (k < (ns.l.length : Int))) then
   qd ns.l k >>= fun x3 =>
   qd in_.stops.l i >>= fun x5 =>
   if (x3 == x5.n) then
    if (decide (mine ≥ 0)) then
     some (.inl (false,mine,up))
    else
    if (decide (x5.up ≥ 0)) then
     qd in_.stops.l x5.up >>= fun x10 =>
     if (x3 == x10.n) then
      uw (ns,i,k,k,(IntKind.i64.wrap (k + 1)),in_)
     else
      uw (ns,i,k,up,(IntKind.i64.wrap (k + 1)),in_)
    else
     uw (ns,i,k,up,(IntKind.i64.wrap (k + 1)),in_)
   else
   if (decide (x5.up ≥ 0)) then
    qd in_.stops.l x5.up >>= fun x14 =>
    if (x3 == x14.n) then
     uw (ns,i,mine,k,(IntKind.i64.wrap (k + 1)),in_)
    else
     uw (ns,i,mine,up,(IntKind.i64.wrap (k + 1)),in_)
   else
    uw (ns,i,mine,up,(IntKind.i64.wrap (k + 1)),in_)
  else
   some (.inr (mine,up))
 partial_fixpoint
def q5g : ((Sl Int) × Int × T.za) → Option (((Bool) ⊕ (Unit)))
 | (ns,i,in_) =>
  if (decide (i < (in_.stops.l.length : Int))) then
   uw (ns,i,(-1),(-1),0,in_) >>= fun v3 =>
   match v3 with
   | .inl y4 =>
    some (.inl y4.1)
   | .inr y5 =>
    if (decide (y5.1 < 0)) then
     some (.inl false)
    else
     qd in_.stops.l i >>= fun x8 =>
     if ((decide (x8.up ≥ 0)) && (decide (y5.2 ≤ y5.1))) then
      some (.inl false)
     else
      q5g (ns,(IntKind.i64.wrap (i + 1)),in_)
  else
   some (.inr ())
 partial_fixpoint
def qf8 (s : Bytes) : Option ((Bool)) :=
 q81 s 0 >>= fun v2 =>
 if ((decide ((s.length : Int) > 100)) || (!v2.2)) then
  aw8 >>= fun v5 =>
  some v5
 else
  qaw v2.1 >>= fun v10 =>
  qac v2.1 >>= fun v12 =>
  qca v10 v12 >>= fun v14 =>
  if (!v14) then
   some false
  else
   q5g (v10,0,v2.1) >>= fun v17 =>
   match v17 with
   | .inl y18 =>
    some y18
   | .inr y19 =>
    aw8 >>= fun v21 =>
    some v21
end Go.Proofs.YtdhgdeelagmbpaaGreat
