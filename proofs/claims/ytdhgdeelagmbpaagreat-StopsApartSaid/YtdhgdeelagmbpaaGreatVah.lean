/-
  The functions as plain Lean functions.
-/
import Derived.Test.YtdhgdeelagmbpaaGreatVag
set_option linter.unusedSimpArgs false
set_option linter.unusedVariables false
set_option maxRecDepth 100000
namespace Go.Proofs.YtdhgdeelagmbpaaGreat
open Go Go.Gm
def q1s (c : UInt8) : Option ((Bool)) :=
 if (decide ((c.toNat : Int) ≥ 48)) then
  some (decide ((c.toNat : Int) ≤ 57))
 else
  some false
def q6x : (Bytes × Int × Int × Int) → Option ((Int × Int))
 | (s,at_,n,end_) =>
  if ((decide (end_ < (s.length : Int))) && (decide (end_ < (IntKind.i64.wrap (at_ + 4))))) then
   qh s end_ >>= fun b4 =>
   q1s b4 >>= fun v6 =>
   if v6 then
    q6x (s,at_,(IntKind.i64.wrap ((IntKind.i64.wrap (n * 10)) + (IntKind.i64.wrap (IntKind.u8.wrap ((b4.toNat : Int) - 48))))),(IntKind.i64.wrap (end_ + 1)))
   else
    some (n,end_)
  else
   some (n,end_)
 partial_fixpoint
def q6n (s : Bytes) (at_ : Int) : Option ((Int × Int × Bool)) :=
 q6x (s,at_,0,at_) >>= fun v2 =>
 if (v2.2 == at_) then
  some (0,0,false)
 else
 if (decide (v2.2 < (s.length : Int))) then
  qh s v2.2 >>= fun b6 =>
  q1s b6 >>= fun v8 =>
  if v8 then
   some (0,0,false)
  else
   some (v2.1,v2.2,true)
 else
  some (v2.1,v2.2,true)
def q5r (c : UInt8) : Option ((Bool)) :=
 if ((decide ((c.toNat : Int) ≥ 65)) && (decide ((c.toNat : Int) ≤ 90))) then
  some true
 else
 if (decide ((c.toNat : Int) ≥ 97)) then
  some (decide ((c.toNat : Int) ≤ 122))
 else
  some false
def q34 : (Int × Int × Bytes × (List T.qb) × (List Int)) → Option ((Int))
 | (at_,end_,r_,r1_,r2_) =>
  if (decide (end_ < (r_.length : Int))) then
   qh r_ end_ >>= fun b3 =>
   q5r b3 >>= fun v5 =>
   if v5 then
    q34 (at_,(IntKind.i64.wrap (end_ + 1)),r_,r1_,r2_)
   else
   if ((b3.toNat : Int) == 95) then
    q34 (at_,(IntKind.i64.wrap (end_ + 1)),r_,r1_,r2_)
   else
   if (decide (end_ > at_)) then
    q1s b3 >>= fun v10 =>
    if v10 then
     q34 (at_,(IntKind.i64.wrap (end_ + 1)),r_,r1_,r2_)
    else
     some end_
   else
    some end_
  else
   some end_
 partial_fixpoint
def q0x : (Bytes × Int) → Option (((Bool) ⊕ (Unit)))
 | (s,i) =>
  if (decide (i < (s.length : Int))) then
   qh s i >>= fun b3 =>
   q5r b3 >>= fun v5 =>
   if (!v5) then
    if ((b3.toNat : Int) != 95) then
     if (i == 0) then
      some (.inl false)
     else
      q1s b3 >>= fun v10 =>
      if (!v10) then
       some (.inl false)
      else
       q0x (s,(IntKind.i64.wrap (i + 1)))
    else
     q0x (s,(IntKind.i64.wrap (i + 1)))
   else
    q0x (s,(IntKind.i64.wrap (i + 1)))
  else
   some (.inr ())
 partial_fixpoint
def bf (s : Bytes) : Option ((Bool)) :=
 if (((s.length : Int) == 0) || (decide ((s.length : Int) > 64))) then
  some false
 else
  q0x (s,0) >>= fun v4 =>
  match v4 with
  | .inl y5 =>
   some y5
  | .inr y6 =>
   some true
def q9n (at_ : Int) (b : Bytes) (r_ : (List T.qb)) (r_2 : (List Int)) : Option ((Bytes × Int × Bool)) :=
 q34 (at_,at_,b,r_,r_2) >>= fun v2 =>
 sub2 b at_ v2 >>= fun r4 =>
 bf r4 >>= fun v6 =>
 some (r4,v2,v6)
def q9k (at_ : Int) (b : Bytes) (r_ : (List T.qb)) (r_2 : (List Int)) : Option ((T.qb × Int × Bool)) :=
 q6n b at_ >>= fun v2 =>
 if v2.2.2 then
  some ((T.qb.mk 1 ([] : Bytes) v2.1 false false (T.Form.mk (T.Rx.mk 0 ([] : Bytes) false (⟨true,([] : List T.Row)⟩ : (Sl T.Row)) 0 0 false (⟨true,([] : List T.Rx)⟩ : (Sl T.Rx))) (⟨true,([] : List T.Fmt)⟩ : (Sl T.Fmt)) false false) (⟨true,([] : List Bytes)⟩ : (Sl Bytes)) (⟨true,([] : List T.qb)⟩ : (Sl T.qb))),v2.2.1,true)
 else
  q9n at_ b r_ r_2 >>= fun v5 =>
  if v5.2.2 then
   some ((T.qb.mk 3 v5.1 0 false false (T.Form.mk (T.Rx.mk 0 ([] : Bytes) false (⟨true,([] : List T.Row)⟩ : (Sl T.Row)) 0 0 false (⟨true,([] : List T.Rx)⟩ : (Sl T.Rx))) (⟨true,([] : List T.Fmt)⟩ : (Sl T.Fmt)) false false) (⟨true,([] : List Bytes)⟩ : (Sl Bytes)) (⟨true,([] : List T.qb)⟩ : (Sl T.qb))),v5.2.1,true)
  else
   some ((T.qb.mk 0 ([] : Bytes) 0 false false (T.Form.mk (T.Rx.mk 0 ([] : Bytes) false (⟨true,([] : List T.Row)⟩ : (Sl T.Row)) 0 0 false (⟨true,([] : List T.Rx)⟩ : (Sl T.Rx))) (⟨true,([] : List T.Fmt)⟩ : (Sl T.Fmt)) false false) (⟨true,([] : List Bytes)⟩ : (Sl Bytes)) (⟨true,([] : List T.qb)⟩ : (Sl T.qb))),0,false)
def q74 (s : Bytes) (at_ : Int) (opt : Bool) : Option ((Bool)) :=
 qh s at_ >>= fun b2 =>
 if (((b2.toNat : Int) != 92) || (decide ((IntKind.i64.wrap (at_ + 1)) ≥ (s.length : Int)))) then
  some false
 else
  qh s (IntKind.i64.wrap (at_ + 1)) >>= fun b6 =>
  if (((b6.toNat : Int) == 36) || (((b6.toNat : Int) == 125) || ((b6.toNat : Int) == 92))) then
   some true
  else
  if opt then
   if ((b6.toNat : Int) == 44) then
    some true
   else
    some ((b6.toNat : Int) == 124)
  else
   some false
def uo : (Int × Bool × Bytes × (List T.qb) × (List Int) × (List T.qb) × (List UInt8)) → Option ((Int × (List T.qb) × (List UInt8)))
 | (at_,braced,r_,r1_,r2_,l,text) =>
  if (decide (at_ < (r_.length : Int))) then
   if braced then
    qh r_ at_ >>= fun b4 =>
    if (!((b4.toNat : Int) == 125)) then
     qh r2_ at_ >>= fun x7 =>
     if (decide (x7 > 0)) then
      qh r1_ at_ >>= fun x10 =>
      if ql (l.length + 2) 224 = true then
       uo (x7,braced,r_,r1_,r2_,(l ++ [(T.qb.mk 0 text 0 false false (T.Form.mk (T.Rx.mk 0 ([] : Bytes) false (⟨true,[]⟩ : (Sl T.Row)) 0 0 false (⟨true,[]⟩ : (Sl T.Rx))) (⟨true,[]⟩ : (Sl T.Fmt)) false false) (⟨true,[]⟩ : (Sl Bytes)) (⟨true,[]⟩ : (Sl T.qb))),x10]),([] : List UInt8))
      else none
     else
      q74 r_ at_ false >>= fun v13 =>
      if v13 then
       qh r_ (IntKind.i64.wrap (at_ + 1)) >>= fun b16 =>
       if ql (text.length + 1) 1 = true then
        uo ((IntKind.i64.wrap ((IntKind.i64.wrap (at_ + 1)) + 1)),braced,r_,r1_,r2_,l,(text ++ [b16]))
       else none
      else
       if ql (text.length + 1) 1 = true then
        uo ((IntKind.i64.wrap (at_ + 1)),braced,r_,r1_,r2_,l,(text ++ [b4]))
       else none
    else
     some (at_,l,text)
   else
    qh r2_ at_ >>= fun x20 =>
    if (decide (x20 > 0)) then
     qh r1_ at_ >>= fun x23 =>
     if ql (l.length + 2) 224 = true then
      uo (x20,braced,r_,r1_,r2_,(l ++ [(T.qb.mk 0 text 0 false false (T.Form.mk (T.Rx.mk 0 ([] : Bytes) false (⟨true,[]⟩ : (Sl T.Row)) 0 0 false (⟨true,[]⟩ : (Sl T.Rx))) (⟨true,[]⟩ : (Sl T.Fmt)) false false) (⟨true,[]⟩ : (Sl Bytes)) (⟨true,[]⟩ : (Sl T.qb))),x23]),([] : List UInt8))
     else none
    else
     q74 r_ at_ false >>= fun v26 =>
     if v26 then
      qh r_ (IntKind.i64.wrap (at_ + 1)) >>= fun b29 =>
      if ql (text.length + 1) 1 = true then
       uo ((IntKind.i64.wrap ((IntKind.i64.wrap (at_ + 1)) + 1)),braced,r_,r1_,r2_,l,(text ++ [b29]))
      else none
     else
      qh r_ at_ >>= fun b32 =>
      if ql (text.length + 1) 1 = true then
       uo ((IntKind.i64.wrap (at_ + 1)),braced,r_,r1_,r2_,l,(text ++ [b32]))
      else none
  else
   some (at_,l,text)
 partial_fixpoint
def q0h : ((Sl T.qb) × Int × (List T.qb)) → Option (((List T.qb)))
 | (l,i,out) =>
  if (decide (i < (l.l.length : Int))) then
   qh l.l i >>= fun x3 =>
   if (x3.kind == 0) then
    if (x3.text == ([] : Bytes)) then
     q0h (l,(IntKind.i64.wrap (i + 1)),out)
    else
    if (decide ((out.length : Int) > 0)) then
     qh out (IntKind.i64.wrap ((out.length : Int) - 1)) >>= fun x8 =>
     if (x8.kind == 0) then
      if x8.text.length + x3.text.length ≤ 2 ^ 62 then
       q0h (l,(IntKind.i64.wrap (i + 1)),(out.set ((IntKind.i64.wrap ((out.length : Int) - 1)).toNat) (T.qb.mk x8.kind (x8.text ++ x3.text) x8.n x8.has x8.turned x8.form x8.opts x8.kids)))
      else none
     else
      if ql (out.length + 1) 224 = true then
       q0h (l,(IntKind.i64.wrap (i + 1)),(out ++ [x3]))
      else none
    else
     if ql (out.length + 1) 224 = true then
      q0h (l,(IntKind.i64.wrap (i + 1)),(out ++ [x3]))
     else none
   else
    if ql (out.length + 1) 224 = true then
     q0h (l,(IntKind.i64.wrap (i + 1)),(out ++ [x3]))
    else none
  else
   some out
 partial_fixpoint
def qch (l : (Sl T.qb)) : Option (((Sl T.qb))) :=
 q0h (l,0,([] : List T.qb)) >>= fun v2 =>
 some (⟨v2.isEmpty,v2⟩ : Sl T.qb)
def q96 (at_ : Int) (braced : Bool) (b : Bytes) (r_ : (List T.qb)) (r_2 : (List Int)) : Option (((Sl T.qb) × Int)) :=
 uo (at_,braced,b,r_,r_2,([] : List T.qb),([] : List UInt8)) >>= fun v2 =>
 if ((decide (v2.1 ≥ (b.length : Int))) && braced) then
  some ((⟨true,([] : List T.qb)⟩ : Sl T.qb),(-1))
 else
  if ql (v2.2.1.length + 1) 224 = true then
   qch (⟨false,(v2.2.1 ++ [(T.qb.mk 0 v2.2.2 0 false false (T.Form.mk (T.Rx.mk 0 ([] : Bytes) false (⟨true,[]⟩ : (Sl T.Row)) 0 0 false (⟨true,[]⟩ : (Sl T.Rx))) (⟨true,[]⟩ : (Sl T.Fmt)) false false) (⟨true,[]⟩ : (Sl Bytes)) (⟨true,[]⟩ : (Sl T.qb)))])⟩ : Sl T.qb) >>= fun v10 =>
   some (v10,v2.1)
  else none
def q44 : (Bytes × Int × T.Form × (List UInt8)) → Option ((Int × (List UInt8)))
 | (s,k,t4,b) =>
  if (decide (k < (s.length : Int))) then
   qh s k >>= fun b3 =>
   if ((b3.toNat : Int) != 47) then
    if (((b3.toNat : Int) == 92) && (decide ((IntKind.i64.wrap (k + 1)) < (s.length : Int)))) then
     qh s (IntKind.i64.wrap (k + 1)) >>= fun b8 =>
     if ((b8.toNat : Int) != 47) then
      if ql (b.length + 1) 1 = true then
       if ql ((b ++ [92]).length + 1) 1 = true then
        q44 (s,(IntKind.i64.wrap ((IntKind.i64.wrap (k + 1)) + 1)),t4,((b ++ [92]) ++ [b8]))
       else none
      else none
     else
      if ql (b.length + 1) 1 = true then
       q44 (s,(IntKind.i64.wrap ((IntKind.i64.wrap (k + 1)) + 1)),t4,(b ++ [b8]))
      else none
    else
     if ql (b.length + 1) 1 = true then
      q44 (s,(IntKind.i64.wrap (k + 1)),t4,(b ++ [b3]))
     else none
   else
    some (k,b)
  else
   some (k,b)
 partial_fixpoint
def q38 (c : UInt8) : Option ((Bool)) :=
 if (decide ((c.toNat : Int) < 128)) then
  some true
 else
  some (decide ((c.toNat : Int) > 191))
def yc : (Bytes × Int × Int × (List Bytes)) → Option (((List Bytes)))
 | (s,frm,i,l) =>
  if (decide (i ≤ (s.length : Int))) then
   if (i == (s.length : Int)) then
    sub2 s frm i >>= fun r4 =>
    if ql (l.length + 1) 16 = true then
     yc (s,i,(IntKind.i64.wrap (i + 1)),(l ++ [r4]))
    else none
   else
    qh s i >>= fun b7 =>
    q38 b7 >>= fun v9 =>
    if v9 then
     sub2 s frm i >>= fun r12 =>
     if ql (l.length + 1) 16 = true then
      yc (s,i,(IntKind.i64.wrap (i + 1)),(l ++ [r12]))
     else none
    else
     yc (s,frm,(IntKind.i64.wrap (i + 1)),l)
  else
   some l
 partial_fixpoint
def q31 (s : Bytes) : Option (((Sl Bytes))) :=
 yc (s,0,1,([] : List Bytes)) >>= fun v2 =>
 some (⟨v2.isEmpty,v2⟩ : Sl Bytes)
def q05 (b : T.qm) : Option ((Bytes)) :=
 if (decide (b.at_ ≥ (b.cs.l.length : Int))) then
  some ([] : Bytes)
 else
  qh b.cs.l b.at_ >>= fun x3 =>
  some x3
def zu (c : Bytes) (b : T.qm) : Option ((Bool × T.qm)) :=
 if (decide (b.at_ ≥ (b.cs.l.length : Int))) then
  some (false,b)
 else
  qh b.cs.l b.at_ >>= fun x3 =>
  if (!(x3 == c)) then
   some (false,b)
  else
   some (true,(T.qm.mk b.cs (IntKind.i64.wrap (b.at_ + 1))))
def q9i (c : UInt8) : Option (((Sl T.Row) × Bool)) :=
 if ((c.toNat : Int) == 100) then
  some ((⟨false,[(T.Row.mk ([48] : Bytes) ([57] : Bytes))]⟩ : Sl T.Row),true)
 else
 if ((c.toNat : Int) == 119) then
  some ((⟨false,[(T.Row.mk ([48] : Bytes) ([57] : Bytes)),(T.Row.mk ([65] : Bytes) ([90] : Bytes)),(T.Row.mk ([95] : Bytes) ([95] : Bytes)),(T.Row.mk ([97] : Bytes) ([122] : Bytes))]⟩ : Sl T.Row),true)
 else
 if ((c.toNat : Int) == 115) then
  some ((⟨false,[(T.Row.mk ([9] : Bytes) ([13] : Bytes)),(T.Row.mk ([32] : Bytes) ([32] : Bytes))]⟩ : Sl T.Row),true)
 else
  some ((⟨true,([] : List T.Row)⟩ : Sl T.Row),false)
def q27 (c : Bytes) : Option ((Bytes × Bool)) :=
 if (c == ([] : Bytes)) then
  some (([] : Bytes),false)
 else
 if (c == ([110] : Bytes)) then
  some (([10] : Bytes),true)
 else
 if (c == ([114] : Bytes)) then
  some (([13] : Bytes),true)
 else
 if (c == ([116] : Bytes)) then
  some (([9] : Bytes),true)
 else
 if (c == ([102] : Bytes)) then
  some (([12] : Bytes),true)
 else
 if (c == ([118] : Bytes)) then
  some (([11] : Bytes),true)
 else
 if ((c.length : Int) == 1) then
  qh c 0 >>= fun b9 =>
  q5r b9 >>= fun v11 =>
  if v11 then
   some (([] : Bytes),false)
  else
   q1s b9 >>= fun v14 =>
   if v14 then
    some (([] : Bytes),false)
   else
    some (c,true)
 else
  some (c,true)
def q8f (b : T.qm) : Option (((Sl T.Row) × Bytes × Bool × T.qm)) :=
 q05 b >>= fun v2 =>
 if ((v2 == ([] : Bytes)) || (v2 == ([93] : Bytes))) then
  some ((⟨true,([] : List T.Row)⟩ : Sl T.Row),([] : Bytes),false,b)
 else
 if (!(v2 == ([92] : Bytes))) then
  some ((⟨true,([] : List T.Row)⟩ : Sl T.Row),v2,true,(T.qm.mk b.cs (IntKind.i64.wrap (b.at_ + 1))))
 else
  q05 (T.qm.mk b.cs (IntKind.i64.wrap (b.at_ + 1))) >>= fun v7 =>
  if ((v7.length : Int) == 1) then
   qh v7 0 >>= fun b10 =>
   q9i b10 >>= fun v12 =>
   if v12.2 then
    some (v12.1,([] : Bytes),true,(T.qm.mk b.cs (IntKind.i64.wrap ((IntKind.i64.wrap (b.at_ + 1)) + 1))))
   else
    q27 v7 >>= fun v15 =>
    some ((⟨true,([] : List T.Row)⟩ : Sl T.Row),v15.1,v15.2,(T.qm.mk b.cs (IntKind.i64.wrap ((IntKind.i64.wrap (b.at_ + 1)) + 1))))
  else
   q27 v7 >>= fun v17 =>
   some ((⟨true,([] : List T.Row)⟩ : Sl T.Row),v17.1,v17.2,(T.qm.mk b.cs (IntKind.i64.wrap ((IntKind.i64.wrap (b.at_ + 1)) + 1))))
def q02 : (T.qm × T.Rx × T.Rx × (List T.Row)) → Option (((Int × T.qm × T.Rx × (List T.Row)) ⊕ (T.qm × (List T.Row))))
 | (r_,t2,x,rows) =>
  zu ([93] : Bytes) r_ >>= fun v2 =>
  if (!v2.1) then
   q8f v2.2 >>= fun v5 =>
   if (!v5.2.2.1) then
    some (.inl (10,v5.2.2.2,(T.Rx.mk 0 ([] : Bytes) false (⟨true,([] : List T.Row)⟩ : (Sl T.Row)) 0 0 false (⟨true,([] : List T.Rx)⟩ : (Sl T.Rx))),rows))
   else
   if (decide ((v5.1.l.length : Int) > 0)) then
    if (rows.isEmpty && v5.1.l.isEmpty) then
     q02 (v5.2.2.2,t2,x,rows)
    else
     if ql (rows.length + v5.1.l.length) 32 = true then
      q02 (v5.2.2.2,t2,x,(rows ++ v5.1.l))
     else none
   else
    q05 v5.2.2.2 >>= fun v11 =>
    if ((v11 == ([45] : Bytes)) && (decide ((IntKind.i64.wrap (v5.2.2.2.at_ + 1)) < (v5.2.2.2.cs.l.length : Int)))) then
     qh v5.2.2.2.cs.l (IntKind.i64.wrap (v5.2.2.2.at_ + 1)) >>= fun x15 =>
     if (!(x15 == ([93] : Bytes))) then
      q8f (T.qm.mk v5.2.2.2.cs (IntKind.i64.wrap (v5.2.2.2.at_ + 1))) >>= fun v18 =>
      if ((!v18.2.2.1) || ((decide ((v18.1.l.length : Int) > 0)) || (j6 v18.2.1 v5.2.1))) then
       some (.inl (10,v18.2.2.2,(T.Rx.mk 0 ([] : Bytes) false (⟨true,([] : List T.Row)⟩ : (Sl T.Row)) 0 0 false (⟨true,([] : List T.Rx)⟩ : (Sl T.Rx))),rows))
      else
       if ql (rows.length + 1) 32 = true then
        q02 (v18.2.2.2,t2,x,(rows ++ [(T.Row.mk v5.2.1 v18.2.1)]))
       else none
     else
      if ql (rows.length + 1) 32 = true then
       q02 (v5.2.2.2,t2,x,(rows ++ [(T.Row.mk v5.2.1 v5.2.1)]))
      else none
    else
     if ql (rows.length + 1) 32 = true then
      q02 (v5.2.2.2,t2,x,(rows ++ [(T.Row.mk v5.2.1 v5.2.1)]))
     else none
  else
   some (.inr (v2.2,rows))
 partial_fixpoint
def mg (c : Bytes) : Option ((Bool)) :=
 if (decide ((c.length : Int) > 0)) then
  qh c 0 >>= fun b3 =>
  q38 b3 >>= fun v5 =>
  if v5 then
   q31 c >>= fun v8 =>
   some ((v8.l.length : Int) == 1)
  else
   some false
 else
  some false
def q4p : ((Sl T.Row) × (Sl T.Row) × Int × Int × T.Row) → Option ((Int))
 | (rows,s,i,k,r_) =>
  if (decide (k > 0)) then
   qh s.l (IntKind.i64.wrap (k - 1)) >>= fun x3 =>
   if (j6 r_.frm x3.frm) then
    q4p (rows,s,i,(IntKind.i64.wrap (k - 1)),r_)
   else
   if (r_.frm == x3.frm) then
    if (j6 r_.to x3.to) then
     q4p (rows,s,i,(IntKind.i64.wrap (k - 1)),r_)
    else
     some k
   else
    some k
  else
   some k
 partial_fixpoint
def q1w : ((Sl T.Row) × (Sl T.Row) × Int) → Option (((Sl T.Row)))
 | (rows,s,i) =>
  if (decide (i < (rows.l.length : Int))) then
   qh rows.l i >>= fun x3 =>
   mg x3.frm >>= fun v5 =>
   if (!v5) then
    q1w (rows,s,(IntKind.i64.wrap (i + 1)))
   else
    mg x3.to >>= fun v8 =>
    if ((!v8) || (!(j6 x3.frm x3.to || x3.frm == x3.to))) then
     q1w (rows,s,(IntKind.i64.wrap (i + 1)))
    else
     q4p (rows,s,i,(s.l.length : Int),x3) >>= fun v12 =>
     gm s.l v12 >>= fun r14 =>
     if ql (r14.length) 32 = true then
      if ql (r14.length + 1) 32 = true then
       ku s.l v12 >>= fun r18 =>
       if ql ((r14 ++ [x3]).length + r18.length) 32 = true then
        q1w (rows,(⟨false,((r14 ++ [x3]) ++ r18)⟩ : Sl T.Row),(IntKind.i64.wrap (i + 1)))
       else none
      else none
     else none
  else
   some s
 partial_fixpoint
def q2l : ((Sl T.Row) × Int × (List T.Row)) → Option (((List T.Row)))
 | (s,i,out) =>
  if (decide (i < (s.l.length : Int))) then
   if (decide ((out.length : Int) > 0)) then
    qh s.l i >>= fun x4 =>
    qh out (IntKind.i64.wrap ((out.length : Int) - 1)) >>= fun x6 =>
    if (j6 x4.frm x6.to || x4.frm == x6.to) then
     q2l (s,(IntKind.i64.wrap (i + 1)),(out.set ((IntKind.i64.wrap ((out.length : Int) - 1)).toNat) (T.Row.mk x6.frm (if j6 x6.to x4.to = true then x4.to else x6.to))))
    else
     if ql (out.length + 1) 32 = true then
      q2l (s,(IntKind.i64.wrap (i + 1)),(out ++ [x4]))
     else none
   else
    qh s.l i >>= fun x10 =>
    if ql (out.length + 1) 32 = true then
     q2l (s,(IntKind.i64.wrap (i + 1)),(out ++ [x10]))
    else none
  else
   some out
 partial_fixpoint
def qbj (rows : (Sl T.Row)) : Option (((Sl T.Row))) :=
 q1w (rows,(⟨true,([] : List T.Row)⟩ : Sl T.Row),0) >>= fun v2 =>
 q2l (v2,0,([] : List T.Row)) >>= fun v4 =>
 some (⟨v4.isEmpty,v4⟩ : Sl T.Row)
def qcg (b : T.qm) : Option ((T.Rx × Int × T.qm)) :=
 zu ([94] : Bytes) b >>= fun v2 =>
 q02 (v2.2,(T.Rx.mk 0 ([] : Bytes) false (⟨true,([] : List T.Row)⟩ : (Sl T.Row)) 0 0 false (⟨true,([] : List T.Rx)⟩ : (Sl T.Rx))),(T.Rx.mk 4 ([] : Bytes) v2.1 (⟨true,([] : List T.Row)⟩ : (Sl T.Row)) 0 0 false (⟨true,([] : List T.Rx)⟩ : (Sl T.Rx))),([] : List T.Row)) >>= fun v4 =>
 match v4 with
 | .inl y5 =>
  some (y5.2.2.1,y5.1,y5.2.1)
 | .inr y6 =>
  qbj (⟨y6.2.isEmpty,y6.2⟩ : Sl T.Row) >>= fun v8 =>
  some ((T.Rx.mk 4 ([] : Bytes) v2.1 v8 0 0 false (⟨true,([] : List T.Rx)⟩ : (Sl T.Rx))),0,y6.1)
def q17 : (Int × (List UInt8)) → Option (((List UInt8)))
 | (i,b) =>
  if (decide (i < (b.length : Int))) then
   qh b i >>= fun x3 =>
   if (decide ((x3.toNat : Int) ≥ 65)) then
    if (decide ((x3.toNat : Int) ≤ 90)) then
     q17 ((IntKind.i64.wrap (i + 1)),(b.set i.toNat (u8 (IntKind.u8.wrap ((x3.toNat : Int) + 32)))))
    else
     q17 ((IntKind.i64.wrap (i + 1)),b)
   else
    q17 ((IntKind.i64.wrap (i + 1)),b)
  else
   some b
 partial_fixpoint
def q1x (s : Bytes) : Option ((Bytes)) :=
 q17 (0,s) >>= fun v2 =>
 some v2
def qbp (b : T.qm) : Option ((T.Rx × Int × T.qm)) :=
 q05 b >>= fun v2 =>
 q1x v2 >>= fun v4 =>
 if ((v2.length : Int) == 1) then
  qh v4 0 >>= fun b7 =>
  q9i b7 >>= fun v9 =>
  if v9.2 then
   some ((T.Rx.mk 4 ([] : Bytes) (!(v2 == v4)) v9.1 0 0 false (⟨true,([] : List T.Rx)⟩ : (Sl T.Rx))),0,(T.qm.mk b.cs (IntKind.i64.wrap (b.at_ + 1))))
  else
   q27 v2 >>= fun v12 =>
   if (!v12.2) then
    some ((T.Rx.mk 0 ([] : Bytes) false (⟨true,([] : List T.Row)⟩ : (Sl T.Row)) 0 0 false (⟨true,([] : List T.Rx)⟩ : (Sl T.Rx))),10,b)
   else
    some ((T.Rx.mk 2 v12.1 false (⟨true,([] : List T.Row)⟩ : (Sl T.Row)) 0 0 false (⟨true,([] : List T.Rx)⟩ : (Sl T.Rx))),0,(T.qm.mk b.cs (IntKind.i64.wrap (b.at_ + 1))))
 else
  q27 v2 >>= fun v15 =>
  if (!v15.2) then
   some ((T.Rx.mk 0 ([] : Bytes) false (⟨true,([] : List T.Row)⟩ : (Sl T.Row)) 0 0 false (⟨true,([] : List T.Rx)⟩ : (Sl T.Rx))),10,b)
  else
   some ((T.Rx.mk 2 v15.1 false (⟨true,([] : List T.Row)⟩ : (Sl T.Row)) 0 0 false (⟨true,([] : List T.Rx)⟩ : (Sl T.Rx))),0,(T.qm.mk b.cs (IntKind.i64.wrap (b.at_ + 1))))
def q7h : (Int × Int × T.qm) → Option ((Int × Int × T.qm))
 | (n,many,r_) =>
  if (decide (many < 3)) then
   q05 r_ >>= fun v3 =>
   if ((v3.length : Int) == 1) then
    qh v3 0 >>= fun b6 =>
    q1s b6 >>= fun v8 =>
    if v8 then
     q7h ((IntKind.i64.wrap ((IntKind.i64.wrap (n * 10)) + (IntKind.i64.wrap (IntKind.u8.wrap ((b6.toNat : Int) - 48))))),(IntKind.i64.wrap (many + 1)),(T.qm.mk r_.cs (IntKind.i64.wrap (r_.at_ + 1))))
    else
     some (n,many,r_)
   else
    some (n,many,r_)
  else
   some (n,many,r_)
 partial_fixpoint
def q95 (b : T.qm) : Option ((Int × Bool × T.qm)) :=
 q7h (0,0,b) >>= fun v2 =>
 if (decide (v2.2.1 > 0)) then
  some (v2.1,(decide (v2.1 ≤ 255)),v2.2.2)
 else
  some (v2.1,false,v2.2.2)
def q64 (x : T.Rx) (b : T.qm) : Option ((T.Rx × Int × T.qm)) :=
 zu ([42] : Bytes) b >>= fun v2 =>
 if v2.1 then
  zu ([63] : Bytes) v2.2 >>= fun v5 =>
  some ((T.Rx.mk 7 ([] : Bytes) false (⟨true,[]⟩ : (Sl T.Row)) 0 (-1) v5.1 (⟨false,[x]⟩ : (Sl T.Rx))),0,v5.2)
 else
  zu ([43] : Bytes) v2.2 >>= fun v7 =>
  if v7.1 then
   zu ([63] : Bytes) v7.2 >>= fun v10 =>
   some ((T.Rx.mk 7 ([] : Bytes) false (⟨true,[]⟩ : (Sl T.Row)) 1 (-1) v10.1 (⟨false,[x]⟩ : (Sl T.Rx))),0,v10.2)
  else
   zu ([63] : Bytes) v7.2 >>= fun v12 =>
   if v12.1 then
    zu ([63] : Bytes) v12.2 >>= fun v15 =>
    some ((T.Rx.mk 7 ([] : Bytes) false (⟨true,[]⟩ : (Sl T.Row)) 0 1 v15.1 (⟨false,[x]⟩ : (Sl T.Rx))),0,v15.2)
   else
    zu ([123] : Bytes) v12.2 >>= fun v17 =>
    if v17.1 then
     q95 v17.2 >>= fun v20 =>
     if (!v20.2.1) then
      some ((T.Rx.mk 0 ([] : Bytes) false (⟨true,([] : List T.Row)⟩ : (Sl T.Row)) 0 0 false (⟨true,([] : List T.Rx)⟩ : (Sl T.Rx))),10,v20.2.2)
     else
      zu ([44] : Bytes) v20.2.2 >>= fun v23 =>
      if v23.1 then
       q05 v23.2 >>= fun v26 =>
       if (!(v26 == ([125] : Bytes))) then
        q95 v23.2 >>= fun v29 =>
        if (!v29.2.1) then
         some ((T.Rx.mk 0 ([] : Bytes) false (⟨true,([] : List T.Row)⟩ : (Sl T.Row)) 0 0 false (⟨true,([] : List T.Rx)⟩ : (Sl T.Rx))),10,v29.2.2)
        else
         zu ([125] : Bytes) v29.2.2 >>= fun v32 =>
         if ((!v32.1) || ((v29.1 != (-1)) && (decide (v29.1 < v20.1)))) then
          some ((T.Rx.mk 0 ([] : Bytes) false (⟨true,([] : List T.Row)⟩ : (Sl T.Row)) 0 0 false (⟨true,([] : List T.Rx)⟩ : (Sl T.Rx))),10,v32.2)
         else
          zu ([63] : Bytes) v32.2 >>= fun v39 =>
          some ((T.Rx.mk 7 ([] : Bytes) false (⟨true,[]⟩ : (Sl T.Row)) v20.1 v29.1 v39.1 (⟨false,[x]⟩ : (Sl T.Rx))),0,v39.2)
       else
        zu ([125] : Bytes) v23.2 >>= fun v41 =>
        if (!v41.1) then
         some ((T.Rx.mk 0 ([] : Bytes) false (⟨true,([] : List T.Row)⟩ : (Sl T.Row)) 0 0 false (⟨true,([] : List T.Rx)⟩ : (Sl T.Rx))),10,v41.2)
        else
         zu ([63] : Bytes) v41.2 >>= fun v44 =>
         some ((T.Rx.mk 7 ([] : Bytes) false (⟨true,[]⟩ : (Sl T.Row)) v20.1 (-1) v44.1 (⟨false,[x]⟩ : (Sl T.Rx))),0,v44.2)
      else
       zu ([125] : Bytes) v23.2 >>= fun v46 =>
       if ((!v46.1) || ((v20.1 != (-1)) && (decide (v20.1 < v20.1)))) then
        some ((T.Rx.mk 0 ([] : Bytes) false (⟨true,([] : List T.Row)⟩ : (Sl T.Row)) 0 0 false (⟨true,([] : List T.Rx)⟩ : (Sl T.Rx))),10,v46.2)
       else
        zu ([63] : Bytes) v46.2 >>= fun v53 =>
        some ((T.Rx.mk 7 ([] : Bytes) false (⟨true,[]⟩ : (Sl T.Row)) v20.1 v20.1 v53.1 (⟨false,[x]⟩ : (Sl T.Rx))),0,v53.2)
    else
     some (x,0,v17.2)
def q2p : (Int × (Sl T.Rx) × Int × (List T.Rx)) → Option (((List T.Rx)))
 | (kind,xs,i,l) =>
  if (decide (i < (xs.l.length : Int))) then
   qh xs.l i >>= fun x3 =>
   if (x3.kind == kind) then
    if (l.isEmpty && x3.kids.l.isEmpty) then
     q2p (kind,xs,(IntKind.i64.wrap (i + 1)),l)
    else
     if ql (l.length + x3.kids.l.length) 104 = true then
      q2p (kind,xs,(IntKind.i64.wrap (i + 1)),(l ++ x3.kids.l))
     else none
   else
    if ql (l.length + 1) 104 = true then
     q2p (kind,xs,(IntKind.i64.wrap (i + 1)),(l ++ [x3]))
    else none
  else
   some l
 partial_fixpoint
def q8c (kind : Int) (xs : (Sl T.Rx)) : Option (((Sl T.Rx))) :=
 q2p (kind,xs,0,([] : List T.Rx)) >>= fun v2 =>
 some (⟨v2.isEmpty,v2⟩ : Sl T.Rx)
def qau (xs : (Sl T.Rx)) : Option ((T.Rx)) :=
 q8c 0 xs >>= fun v2 =>
 if ((v2.l.length : Int) == 1) then
  qh v2.l 0 >>= fun x5 =>
  some x5
 else
  some (T.Rx.mk 0 ([] : Bytes) false (⟨true,([] : List T.Row)⟩ : (Sl T.Row)) 0 0 false v2)
def qbh (xs : (Sl T.Rx)) : Option ((T.Rx)) :=
 q8c 1 xs >>= fun v2 =>
 if ((v2.l.length : Int) == 0) then
  some (T.Rx.mk 0 ([] : Bytes) false (⟨true,([] : List T.Row)⟩ : (Sl T.Row)) 0 0 false (⟨true,([] : List T.Rx)⟩ : (Sl T.Rx)))
 else
 if ((v2.l.length : Int) == 1) then
  qh v2.l 0 >>= fun x6 =>
  some x6
 else
  some (T.Rx.mk 1 ([] : Bytes) false (⟨true,([] : List T.Row)⟩ : (Sl T.Row)) 0 0 false v2)
mutual
def q1i : (Int × T.qm) → Option ((T.Rx × Int × T.qm))
 | (deep,b) =>
  q79 (deep,b,(T.Rx.mk 0 ([] : Bytes) false (⟨true,([] : List T.Row)⟩ : (Sl T.Row)) 0 0 false (⟨true,([] : List T.Rx)⟩ : (Sl T.Rx))),([] : List T.Rx)) >>= fun v2 =>
  match v2 with
  | .inl y3 =>
   some (y3.2.2.1,y3.1,y3.2.1)
  | .inr y4 =>
   some (y4.2.2,y4.1,y4.2.1)
 partial_fixpoint
def q79 : (Int × T.qm × T.Rx × (List T.Rx)) → Option (((Int × T.qm × T.Rx × (List T.Rx)) ⊕ (Int × T.qm × T.Rx)))
 | (deep,r_,t4,alts) =>
  q7l (deep,r_,t4,alts,([] : List T.Rx)) >>= fun v2 =>
  match v2 with
  | .inl y3 =>
   some (.inl (y3.1,y3.2.1,y3.2.2.1,alts))
  | .inr y4 =>
   qau (⟨y4.2.isEmpty,y4.2⟩ : Sl T.Rx) >>= fun v6 =>
   if ql (alts.length + 1) 104 = true then
    zu ([124] : Bytes) y4.1 >>= fun v9 =>
    if (!v9.1) then
     qbh (⟨false,(alts ++ [v6])⟩ : Sl T.Rx) >>= fun v12 =>
     some (.inr (0,v9.2,v12))
    else
     q79 (deep,v9.2,t4,(alts ++ [v6]))
   else none
 partial_fixpoint
def q7l : (Int × T.qm × T.Rx × (List T.Rx) × (List T.Rx)) → Option (((Int × T.qm × T.Rx × (List T.Rx)) ⊕ (T.qm × (List T.Rx))))
 | (deep,r_,t4,alts,terms) =>
  if (decide (r_.at_ < (r_.cs.l.length : Int))) then
   q05 r_ >>= fun v3 =>
   if (!(v3 == ([124] : Bytes))) then
    if (!(v3 == ([41] : Bytes))) then
     qbi (deep,r_) >>= fun v7 =>
     if (v7.2.1 != 0) then
      some (.inl (v7.2.1,v7.2.2,(T.Rx.mk 0 ([] : Bytes) false (⟨true,([] : List T.Row)⟩ : (Sl T.Row)) 0 0 false (⟨true,([] : List T.Rx)⟩ : (Sl T.Rx))),terms))
     else
      if ql (terms.length + 1) 104 = true then
       q7l (deep,v7.2.2,t4,alts,(terms ++ [v7.1]))
      else none
    else
     some (.inr (r_,terms))
   else
    some (.inr (r_,terms))
  else
   some (.inr (r_,terms))
 partial_fixpoint
def qbi : (Int × T.qm) → Option ((T.Rx × Int × T.qm))
 | (deep,b) =>
  zu ([94] : Bytes) b >>= fun v2 =>
  if v2.1 then
   some ((T.Rx.mk 8 ([] : Bytes) false (⟨true,([] : List T.Row)⟩ : (Sl T.Row)) 0 0 false (⟨true,([] : List T.Rx)⟩ : (Sl T.Rx))),0,v2.2)
  else
   zu ([36] : Bytes) v2.2 >>= fun v5 =>
   if v5.1 then
    some ((T.Rx.mk 9 ([] : Bytes) false (⟨true,([] : List T.Row)⟩ : (Sl T.Row)) 0 0 false (⟨true,([] : List T.Rx)⟩ : (Sl T.Rx))),0,v5.2)
   else
    q05 v5.2 >>= fun v8 =>
    if ((v8 == ([92] : Bytes)) && (decide ((IntKind.i64.wrap (v5.2.at_ + 1)) < (v5.2.cs.l.length : Int)))) then
     qh v5.2.cs.l (IntKind.i64.wrap (v5.2.at_ + 1)) >>= fun x12 =>
     if (x12 == ([98] : Bytes)) then
      some ((T.Rx.mk 10 ([] : Bytes) false (⟨true,([] : List T.Row)⟩ : (Sl T.Row)) 0 0 false (⟨true,([] : List T.Rx)⟩ : (Sl T.Rx))),0,(T.qm.mk v5.2.cs (IntKind.i64.wrap (v5.2.at_ + 2))))
     else
     if (x12 == ([66] : Bytes)) then
      some ((T.Rx.mk 11 ([] : Bytes) false (⟨true,([] : List T.Row)⟩ : (Sl T.Row)) 0 0 false (⟨true,([] : List T.Rx)⟩ : (Sl T.Rx))),0,(T.qm.mk v5.2.cs (IntKind.i64.wrap (v5.2.at_ + 2))))
     else
      q6b (deep,v5.2) >>= fun v16 =>
      if (v16.2.1 != 0) then
       some ((T.Rx.mk 0 ([] : Bytes) false (⟨true,([] : List T.Row)⟩ : (Sl T.Row)) 0 0 false (⟨true,([] : List T.Rx)⟩ : (Sl T.Rx))),v16.2.1,v16.2.2)
      else
       q64 v16.1 v16.2.2 >>= fun v19 =>
       some (v19.1,v19.2.1,v19.2.2)
    else
     q6b (deep,v5.2) >>= fun v26 =>
     if (v26.2.1 != 0) then
      some ((T.Rx.mk 0 ([] : Bytes) false (⟨true,([] : List T.Row)⟩ : (Sl T.Row)) 0 0 false (⟨true,([] : List T.Rx)⟩ : (Sl T.Rx))),v26.2.1,v26.2.2)
     else
      q64 v26.1 v26.2.2 >>= fun v29 =>
      some (v29.1,v29.2.1,v29.2.2)
 partial_fixpoint
def q6b : (Int × T.qm) → Option ((T.Rx × Int × T.qm))
 | (deep,b) =>
  zu ([46] : Bytes) b >>= fun v2 =>
  if v2.1 then
   some ((T.Rx.mk 3 ([] : Bytes) false (⟨true,([] : List T.Row)⟩ : (Sl T.Row)) 0 0 false (⟨true,([] : List T.Rx)⟩ : (Sl T.Rx))),0,v2.2)
  else
   zu ([40] : Bytes) v2.2 >>= fun v5 =>
   if v5.1 then
    if (decide (deep ≥ 16)) then
     some ((T.Rx.mk 0 ([] : Bytes) false (⟨true,([] : List T.Row)⟩ : (Sl T.Row)) 0 0 false (⟨true,([] : List T.Rx)⟩ : (Sl T.Rx))),8,v5.2)
    else
     zu ([63] : Bytes) v5.2 >>= fun v9 =>
     if v9.1 then
      zu ([58] : Bytes) v9.2 >>= fun v12 =>
      if (!v12.1) then
       some ((T.Rx.mk 0 ([] : Bytes) false (⟨true,([] : List T.Row)⟩ : (Sl T.Row)) 0 0 false (⟨true,([] : List T.Rx)⟩ : (Sl T.Rx))),10,v12.2)
      else
       q1i ((IntKind.i64.wrap (deep + 1)),v12.2) >>= fun v15 =>
       if (v15.2.1 != 0) then
        some ((T.Rx.mk 0 ([] : Bytes) false (⟨true,([] : List T.Row)⟩ : (Sl T.Row)) 0 0 false (⟨true,([] : List T.Rx)⟩ : (Sl T.Rx))),v15.2.1,v15.2.2)
       else
        zu ([41] : Bytes) v15.2.2 >>= fun v18 =>
        if (!v18.1) then
         some ((T.Rx.mk 0 ([] : Bytes) false (⟨true,([] : List T.Row)⟩ : (Sl T.Row)) 0 0 false (⟨true,([] : List T.Rx)⟩ : (Sl T.Rx))),10,v18.2)
        else
         some ((T.Rx.mk 6 ([] : Bytes) false (⟨true,[]⟩ : (Sl T.Row)) 0 0 false (⟨false,[v15.1]⟩ : (Sl T.Rx))),0,v18.2)
     else
      q1i ((IntKind.i64.wrap (deep + 1)),v9.2) >>= fun v21 =>
      if (v21.2.1 != 0) then
       some ((T.Rx.mk 0 ([] : Bytes) false (⟨true,([] : List T.Row)⟩ : (Sl T.Row)) 0 0 false (⟨true,([] : List T.Rx)⟩ : (Sl T.Rx))),v21.2.1,v21.2.2)
      else
       zu ([41] : Bytes) v21.2.2 >>= fun v24 =>
       if (!v24.1) then
        some ((T.Rx.mk 0 ([] : Bytes) false (⟨true,([] : List T.Row)⟩ : (Sl T.Row)) 0 0 false (⟨true,([] : List T.Rx)⟩ : (Sl T.Rx))),10,v24.2)
       else
        some ((T.Rx.mk 5 ([] : Bytes) false (⟨true,[]⟩ : (Sl T.Row)) 0 0 false (⟨false,[v21.1]⟩ : (Sl T.Rx))),0,v24.2)
   else
    zu ([91] : Bytes) v5.2 >>= fun v27 =>
    if v27.1 then
     qcg v27.2 >>= fun v30 =>
     some (v30.1,v30.2.1,v30.2.2)
    else
     zu ([92] : Bytes) v27.2 >>= fun v32 =>
     if v32.1 then
      qbp v32.2 >>= fun v35 =>
      some (v35.1,v35.2.1,v35.2.2)
     else
      q05 v32.2 >>= fun v37 =>
      if ((v37 == ([42] : Bytes)) || ((v37 == ([43] : Bytes)) || ((v37 == ([63] : Bytes)) || ((v37 == ([41] : Bytes)) || ((v37 == ([123] : Bytes)) || (v37 == ([124] : Bytes))))))) then
       some ((T.Rx.mk 0 ([] : Bytes) false (⟨true,([] : List T.Row)⟩ : (Sl T.Row)) 0 0 false (⟨true,([] : List T.Rx)⟩ : (Sl T.Rx))),10,v32.2)
      else
       mg v37 >>= fun v45 =>
       if (!v45) then
        some ((T.Rx.mk 0 ([] : Bytes) false (⟨true,([] : List T.Row)⟩ : (Sl T.Row)) 0 0 false (⟨true,([] : List T.Rx)⟩ : (Sl T.Rx))),10,v32.2)
       else
        some ((T.Rx.mk 2 v37 false (⟨true,([] : List T.Row)⟩ : (Sl T.Row)) 0 0 false (⟨true,([] : List T.Rx)⟩ : (Sl T.Rx))),0,(T.qm.mk v32.2.cs (IntKind.i64.wrap (v32.2.at_ + 1))))
 partial_fixpoint
end
def qb0 (s : Bytes) : Option ((T.Rx × Int)) :=
 if (decide ((s.length : Int) > 256)) then
  some ((T.Rx.mk 0 ([] : Bytes) false (⟨true,([] : List T.Row)⟩ : (Sl T.Row)) 0 0 false (⟨true,([] : List T.Rx)⟩ : (Sl T.Rx))),4)
 else
  q31 s >>= fun v3 =>
  q1i (0,(T.qm.mk v3 0)) >>= fun v5 =>
  if ((v5.2.1 == 0) && (decide (v5.2.2.at_ < (v5.2.2.cs.l.length : Int)))) then
   some ((T.Rx.mk 0 ([] : Bytes) false (⟨true,([] : List T.Row)⟩ : (Sl T.Row)) 0 0 false (⟨true,([] : List T.Rx)⟩ : (Sl T.Rx))),10)
  else
  if (v5.2.1 != 0) then
   some ((T.Rx.mk 0 ([] : Bytes) false (⟨true,([] : List T.Row)⟩ : (Sl T.Row)) 0 0 false (⟨true,([] : List T.Rx)⟩ : (Sl T.Rx))),v5.2.1)
  else
   some (v5.1,0)
def q90 (way : Int) : Option ((Bytes)) :=
 if (way == 1) then
  some ([117,112,99,97,115,101] : Bytes)
 else
 if (way == 2) then
  some ([100,111,119,110,99,97,115,101] : Bytes)
 else
 if (way == 3) then
  some ([99,97,112,105,116,97,108,105,122,101] : Bytes)
 else
 if (way == 4) then
  some ([99,97,109,101,108,99,97,115,101] : Bytes)
 else
 if (way == 5) then
  some ([112,97,115,99,97,108,99,97,115,101] : Bytes)
 else
  some ([] : Bytes)
def q4k : (Bytes × Int × Int × T.Fmt × T.Fmt) → Option (((Int × Bool × T.Fmt × T.Fmt) ⊕ (Unit)))
 | (s,end_,w,t4,f) =>
  if (decide (w ≤ 5)) then
   q90 w >>= fun v3 =>
   if v3.length + ([125] : Bytes).length ≤ 2 ^ 62 then
    if (decide ((IntKind.i64.wrap ((IntKind.i64.wrap ((s.length : Int) - end_)) - 2)) ≥ ((v3 ++ ([125] : Bytes)).length : Int))) then
     sub2 s (IntKind.i64.wrap (end_ + 2)) (IntKind.i64.wrap ((IntKind.i64.wrap (end_ + 2)) + ((v3 ++ ([125] : Bytes)).length : Int))) >>= fun r7 =>
     if (r7 == (v3 ++ ([125] : Bytes))) then
      some (.inl ((IntKind.i64.wrap ((IntKind.i64.wrap (end_ + 2)) + ((v3 ++ ([125] : Bytes)).length : Int))),true,(T.Fmt.mk 2 f.n w f.thn f.els),(T.Fmt.mk 2 f.n w f.thn f.els)))
     else
      q4k (s,end_,(IntKind.i64.wrap (w + 1)),t4,f)
    else
     q4k (s,end_,(IntKind.i64.wrap (w + 1)),t4,f)
   else none
  else
   some (.inr ())
 partial_fixpoint
def q68 (s : Bytes) (at_ : Int) (colon : Bool) : Option ((Bool)) :=
 qh s at_ >>= fun b2 =>
 if (((b2.toNat : Int) != 92) || (decide ((IntKind.i64.wrap (at_ + 1)) ≥ (s.length : Int)))) then
  some false
 else
  qh s (IntKind.i64.wrap (at_ + 1)) >>= fun b6 =>
  if (((b6.toNat : Int) == 36) || (((b6.toNat : Int) == 125) || (((b6.toNat : Int) == 92) || ((b6.toNat : Int) == 47)))) then
   some true
  else
  if colon then
   some ((b6.toNat : Int) == 58)
  else
   some false
def q5k : (Bytes × Int × UInt8 × (List UInt8)) → Option ((Int × (List UInt8)))
 | (s,at_,stop,b) =>
  if (decide (at_ < (s.length : Int))) then
   qh s at_ >>= fun b3 =>
   if ((b3.toNat : Int) != (stop.toNat : Int)) then
    q68 s at_ true >>= fun v6 =>
    if v6 then
     qh s (IntKind.i64.wrap (at_ + 1)) >>= fun b9 =>
     if ql (b.length + 1) 1 = true then
      q5k (s,(IntKind.i64.wrap ((IntKind.i64.wrap (at_ + 1)) + 1)),stop,(b ++ [b9]))
     else none
    else
     if ql (b.length + 1) 1 = true then
      q5k (s,(IntKind.i64.wrap (at_ + 1)),stop,(b ++ [b3]))
     else none
   else
    some (at_,b)
  else
   some (at_,b)
 partial_fixpoint
def q3b (s : Bytes) (at_ : Int) (stop : UInt8) : Option ((Bytes × Int × Bool)) :=
 q5k (s,at_,stop,([] : List UInt8)) >>= fun v2 =>
 if (decide (v2.1 ≥ (s.length : Int))) then
  some (([] : Bytes),0,false)
 else
  some (v2.2,v2.1,true)
def qbb (s : Bytes) (at_ : Int) : Option ((T.Fmt × Int × Bool)) :=
 q6n s (IntKind.i64.wrap (at_ + 1)) >>= fun v2 =>
 if v2.2.2 then
  some ((T.Fmt.mk 1 v2.1 0 ([] : Bytes) ([] : Bytes)),v2.2.1,true)
 else
 if (decide ((IntKind.i64.wrap (at_ + 1)) ≥ (s.length : Int))) then
  some ((T.Fmt.mk 0 0 0 ([] : Bytes) ([] : Bytes)),0,false)
 else
  qh s (IntKind.i64.wrap (at_ + 1)) >>= fun b6 =>
  if ((b6.toNat : Int) != 123) then
   some ((T.Fmt.mk 0 0 0 ([] : Bytes) ([] : Bytes)),0,false)
  else
   q6n s (IntKind.i64.wrap (at_ + 2)) >>= fun v9 =>
   if ((!v9.2.2) || (decide (v9.2.1 ≥ (s.length : Int)))) then
    some ((T.Fmt.mk 0 0 0 ([] : Bytes) ([] : Bytes)),0,false)
   else
    qh s v9.2.1 >>= fun b13 =>
    if ((b13.toNat : Int) == 125) then
     some ((T.Fmt.mk 1 v9.1 0 ([] : Bytes) ([] : Bytes)),(IntKind.i64.wrap (v9.2.1 + 1)),true)
    else
    if (((b13.toNat : Int) != 58) || (decide ((IntKind.i64.wrap (v9.2.1 + 1)) ≥ (s.length : Int)))) then
     some ((T.Fmt.mk 0 0 0 ([] : Bytes) ([] : Bytes)),0,false)
    else
     qh s (IntKind.i64.wrap (v9.2.1 + 1)) >>= fun b18 =>
     if ((b18.toNat : Int) == 47) then
      q4k (s,v9.2.1,1,(T.Fmt.mk 0 0 0 ([] : Bytes) ([] : Bytes)),(T.Fmt.mk 0 v9.1 0 ([] : Bytes) ([] : Bytes))) >>= fun v21 =>
      match v21 with
      | .inl y22 =>
       some (y22.2.2.1,y22.1,y22.2.1)
      | .inr y23 =>
       some ((T.Fmt.mk 0 0 0 ([] : Bytes) ([] : Bytes)),0,false)
     else
     if ((b18.toNat : Int) == 43) then
      q3b s (IntKind.i64.wrap (v9.2.1 + 2)) 125 >>= fun v26 =>
      if (!v26.2.2) then
       some ((T.Fmt.mk 0 0 0 ([] : Bytes) ([] : Bytes)),0,false)
      else
       some ((T.Fmt.mk 3 v9.1 0 v26.1 ([] : Bytes)),(IntKind.i64.wrap (v26.2.1 + 1)),true)
     else
     if ((b18.toNat : Int) == 63) then
      q3b s (IntKind.i64.wrap (v9.2.1 + 2)) 58 >>= fun v30 =>
      if v30.2.2 then
       q3b s (IntKind.i64.wrap (v30.2.1 + 1)) 125 >>= fun v33 =>
       if (!v33.2.2) then
        some ((T.Fmt.mk 0 0 0 ([] : Bytes) ([] : Bytes)),0,false)
       else
        some ((T.Fmt.mk 5 v9.1 0 v30.1 v33.1),(IntKind.i64.wrap (v33.2.1 + 1)),true)
      else
       some ((T.Fmt.mk 0 0 0 ([] : Bytes) ([] : Bytes)),0,false)
     else
     if ((b18.toNat : Int) == 45) then
      q3b s (IntKind.i64.wrap (v9.2.1 + 2)) 125 >>= fun v37 =>
      if (!v37.2.2) then
       some ((T.Fmt.mk 0 0 0 ([] : Bytes) ([] : Bytes)),0,false)
      else
       some ((T.Fmt.mk 4 v9.1 0 ([] : Bytes) v37.1),(IntKind.i64.wrap (v37.2.1 + 1)),true)
     else
      q3b s (IntKind.i64.wrap (v9.2.1 + 1)) 125 >>= fun v40 =>
      if (!v40.2.2) then
       some ((T.Fmt.mk 0 0 0 ([] : Bytes) ([] : Bytes)),0,false)
      else
       some ((T.Fmt.mk 4 v9.1 0 ([] : Bytes) v40.1),(IntKind.i64.wrap (v40.2.1 + 1)),true)
def q2s (c : UInt8) (r_ : (List T.Fmt)) : Option (((List T.Fmt))) :=
 if ((r_.length : Int) == 0) then
  if ql (r_.length + 1) 56 = true then
   qh (r_ ++ [(T.Fmt.mk 0 0 0 ([] : Bytes) ([] : Bytes))]) (IntKind.i64.wrap (((r_ ++ [(T.Fmt.mk 0 0 0 ([] : Bytes) ([] : Bytes))]).length : Int) - 1)) >>= fun x4 =>
   if x4.thn.length + [c].length ≤ 2 ^ 62 then
    some ((r_ ++ [(T.Fmt.mk 0 0 0 ([] : Bytes) ([] : Bytes))]).set ((IntKind.i64.wrap (((r_ ++ [(T.Fmt.mk 0 0 0 ([] : Bytes) ([] : Bytes))]).length : Int) - 1)).toNat) (T.Fmt.mk x4.kind x4.n x4.cas (x4.thn ++ [c]) x4.els))
   else none
  else none
 else
  qh r_ (IntKind.i64.wrap ((r_.length : Int) - 1)) >>= fun x7 =>
  if (x7.kind != 0) then
   if ql (r_.length + 1) 56 = true then
    qh (r_ ++ [(T.Fmt.mk 0 0 0 ([] : Bytes) ([] : Bytes))]) (IntKind.i64.wrap (((r_ ++ [(T.Fmt.mk 0 0 0 ([] : Bytes) ([] : Bytes))]).length : Int) - 1)) >>= fun x11 =>
    if x11.thn.length + [c].length ≤ 2 ^ 62 then
     some ((r_ ++ [(T.Fmt.mk 0 0 0 ([] : Bytes) ([] : Bytes))]).set ((IntKind.i64.wrap (((r_ ++ [(T.Fmt.mk 0 0 0 ([] : Bytes) ([] : Bytes))]).length : Int) - 1)).toNat) (T.Fmt.mk x11.kind x11.n x11.cas (x11.thn ++ [c]) x11.els))
    else none
   else none
  else
   if x7.thn.length + [c].length ≤ 2 ^ 62 then
    some (r_.set ((IntKind.i64.wrap ((r_.length : Int) - 1)).toNat) (T.Fmt.mk x7.kind x7.n x7.cas (x7.thn ++ [c]) x7.els))
   else none
def tq : (Bytes × Int × (List T.Fmt)) → Option ((Int × (List T.Fmt)))
 | (s,at_,fs) =>
  if (decide (at_ < (s.length : Int))) then
   qh s at_ >>= fun b3 =>
   if ((b3.toNat : Int) != 47) then
    if ((b3.toNat : Int) == 36) then
     qbb s at_ >>= fun v7 =>
     if v7.2.2 then
      if ql (fs.length + 1) 56 = true then
       tq (s,v7.2.1,(fs ++ [v7.1]))
      else none
     else
      q68 s at_ false >>= fun v11 =>
      if v11 then
       qh s (IntKind.i64.wrap (at_ + 1)) >>= fun b14 =>
       q2s b14 fs >>= fun v16 =>
       tq (s,(IntKind.i64.wrap ((IntKind.i64.wrap (at_ + 1)) + 1)),v16)
      else
       q2s b3 fs >>= fun v18 =>
       tq (s,(IntKind.i64.wrap (at_ + 1)),v18)
    else
     q68 s at_ false >>= fun v20 =>
     if v20 then
      qh s (IntKind.i64.wrap (at_ + 1)) >>= fun b23 =>
      q2s b23 fs >>= fun v25 =>
      tq (s,(IntKind.i64.wrap ((IntKind.i64.wrap (at_ + 1)) + 1)),v25)
     else
      q2s b3 fs >>= fun v27 =>
      tq (s,(IntKind.i64.wrap (at_ + 1)),v27)
   else
    some (at_,fs)
  else
   some (at_,fs)
 partial_fixpoint
def qcb (s : Bytes) (at_ : Int) : Option (((Sl T.Fmt) × Int × Bool)) :=
 if ((decide (at_ < 0)) || (decide (at_ > (s.length : Int)))) then
  some ((⟨true,([] : List T.Fmt)⟩ : Sl T.Fmt),0,false)
 else
  tq (s,at_,([] : List T.Fmt)) >>= fun v4 =>
  if (decide (v4.1 ≥ (s.length : Int))) then
   some ((⟨true,([] : List T.Fmt)⟩ : Sl T.Fmt),0,false)
  else
   some ((⟨v4.2.isEmpty,v4.2⟩ : Sl T.Fmt),v4.1,true)
def q3q : (Bytes × Int × T.Form × (List UInt8) × T.Rx × T.Form) → Option (((Int × Bool × Int × T.Form × T.Form) ⊕ (Int × T.Form)))
 | (s,end_,t4,r1_,b2_,f) =>
  if (decide (end_ < (s.length : Int))) then
   qh s end_ >>= fun b3 =>
   if ((b3.toNat : Int) != 125) then
    if (((b3.toNat : Int) == 103) && (!f.all)) then
     q3q (s,(IntKind.i64.wrap (end_ + 1)),t4,r1_,b2_,(T.Form.mk f.rx f.fmts f.fold true))
    else
    if (((b3.toNat : Int) == 105) && (!f.fold)) then
     q3q (s,(IntKind.i64.wrap (end_ + 1)),t4,r1_,b2_,(T.Form.mk f.rx f.fmts true f.all))
    else
     some (.inl (0,false,end_,(T.Form.mk (T.Rx.mk 0 ([] : Bytes) false (⟨true,([] : List T.Row)⟩ : (Sl T.Row)) 0 0 false (⟨true,([] : List T.Rx)⟩ : (Sl T.Rx))) (⟨true,([] : List T.Fmt)⟩ : (Sl T.Fmt)) false false),f))
   else
    some (.inr (end_,f))
  else
   some (.inr (end_,f))
 partial_fixpoint
def qae (s : Bytes) (at_ : Int) : Option ((T.Form × Int × Bool)) :=
 if ((decide (at_ < 0)) || (decide (at_ ≥ (s.length : Int)))) then
  some ((T.Form.mk (T.Rx.mk 0 ([] : Bytes) false (⟨true,([] : List T.Row)⟩ : (Sl T.Row)) 0 0 false (⟨true,([] : List T.Rx)⟩ : (Sl T.Rx))) (⟨true,([] : List T.Fmt)⟩ : (Sl T.Fmt)) false false),0,false)
 else
  qh s at_ >>= fun b4 =>
  if ((b4.toNat : Int) != 47) then
   some ((T.Form.mk (T.Rx.mk 0 ([] : Bytes) false (⟨true,([] : List T.Row)⟩ : (Sl T.Row)) 0 0 false (⟨true,([] : List T.Rx)⟩ : (Sl T.Rx))) (⟨true,([] : List T.Fmt)⟩ : (Sl T.Fmt)) false false),0,false)
  else
   q44 (s,(IntKind.i64.wrap (at_ + 1)),(T.Form.mk (T.Rx.mk 0 ([] : Bytes) false (⟨true,([] : List T.Row)⟩ : (Sl T.Row)) 0 0 false (⟨true,([] : List T.Rx)⟩ : (Sl T.Rx))) (⟨true,([] : List T.Fmt)⟩ : (Sl T.Fmt)) false false),([] : List UInt8)) >>= fun v7 =>
   if (decide (v7.1 ≥ (s.length : Int))) then
    some ((T.Form.mk (T.Rx.mk 0 ([] : Bytes) false (⟨true,([] : List T.Row)⟩ : (Sl T.Row)) 0 0 false (⟨true,([] : List T.Rx)⟩ : (Sl T.Rx))) (⟨true,([] : List T.Fmt)⟩ : (Sl T.Fmt)) false false),0,false)
   else
    qb0 v7.2 >>= fun v10 =>
    if (v10.2 != 0) then
     some ((T.Form.mk (T.Rx.mk 0 ([] : Bytes) false (⟨true,([] : List T.Row)⟩ : (Sl T.Row)) 0 0 false (⟨true,([] : List T.Rx)⟩ : (Sl T.Rx))) (⟨true,([] : List T.Fmt)⟩ : (Sl T.Fmt)) false false),0,false)
    else
     qcb s (IntKind.i64.wrap (v7.1 + 1)) >>= fun v13 =>
     if (!v13.2.2) then
      some ((T.Form.mk (T.Rx.mk 0 ([] : Bytes) false (⟨true,([] : List T.Row)⟩ : (Sl T.Row)) 0 0 false (⟨true,([] : List T.Rx)⟩ : (Sl T.Rx))) (⟨true,([] : List T.Fmt)⟩ : (Sl T.Fmt)) false false),0,false)
     else
      q3q (s,(IntKind.i64.wrap (v13.2.1 + 1)),(T.Form.mk (T.Rx.mk 0 ([] : Bytes) false (⟨true,([] : List T.Row)⟩ : (Sl T.Row)) 0 0 false (⟨true,([] : List T.Rx)⟩ : (Sl T.Rx))) (⟨true,([] : List T.Fmt)⟩ : (Sl T.Fmt)) false false),v7.2,v10.1,(T.Form.mk v10.1 v13.1 false false)) >>= fun v16 =>
      match v16 with
      | .inl y17 =>
       some (y17.2.2.2.1,y17.1,y17.2.1)
      | .inr y18 =>
       if (decide (y18.1 ≥ (s.length : Int))) then
        some ((T.Form.mk (T.Rx.mk 0 ([] : Bytes) false (⟨true,([] : List T.Row)⟩ : (Sl T.Row)) 0 0 false (⟨true,([] : List T.Rx)⟩ : (Sl T.Rx))) (⟨true,([] : List T.Fmt)⟩ : (Sl T.Fmt)) false false),0,false)
       else
        some (y18.2,y18.1,true)
def q48 : (Int × Bytes × (List T.qb) × (List Int) × (List Bytes) × (List UInt8)) → Option ((Int × (List Bytes) × (List UInt8)))
 | (at_,r_,r1_,r2_,l,text) =>
  if (decide (at_ < (r_.length : Int))) then
   qh r_ at_ >>= fun b3 =>
   if ((b3.toNat : Int) != 124) then
    if ((b3.toNat : Int) == 44) then
     if ql (l.length + 1) 16 = true then
      q48 ((IntKind.i64.wrap (at_ + 1)),r_,r1_,r2_,(l ++ [text]),([] : List UInt8))
     else none
    else
     q74 r_ at_ true >>= fun v8 =>
     if v8 then
      qh r_ (IntKind.i64.wrap (at_ + 1)) >>= fun b11 =>
      if ql (text.length + 1) 1 = true then
       q48 ((IntKind.i64.wrap ((IntKind.i64.wrap (at_ + 1)) + 1)),r_,r1_,r2_,l,(text ++ [b11]))
      else none
     else
      if ql (text.length + 1) 1 = true then
       q48 ((IntKind.i64.wrap (at_ + 1)),r_,r1_,r2_,l,(text ++ [b3]))
      else none
   else
    some (at_,l,text)
  else
   some (at_,l,text)
 partial_fixpoint
def qbm (at_ : Int) (b : Bytes) (r_ : (List T.qb)) (r_2 : (List Int)) : Option (((Sl Bytes) × Int)) :=
 q48 (at_,b,r_,r_2,([] : List Bytes),([] : List UInt8)) >>= fun v2 =>
 if (decide (v2.1 ≥ (b.length : Int))) then
  some ((⟨true,([] : List Bytes)⟩ : Sl Bytes),(-1))
 else
  if ql (v2.2.1.length + 1) 16 = true then
   some ((⟨false,(v2.2.1 ++ [v2.2.2])⟩ : Sl Bytes),v2.1)
  else none
def qb5 (at_ : Int) (b : Bytes) (r_ : (List T.qb)) (r_2 : (List Int)) : Option ((T.qb × Int × Bool)) :=
 q9k (IntKind.i64.wrap (at_ + 1)) b r_ r_2 >>= fun v2 =>
 if v2.2.2 then
  some (v2.1,v2.2.1,true)
 else
 if (decide ((IntKind.i64.wrap (at_ + 1)) ≥ (b.length : Int))) then
  some ((T.qb.mk 0 ([] : Bytes) 0 false false (T.Form.mk (T.Rx.mk 0 ([] : Bytes) false (⟨true,([] : List T.Row)⟩ : (Sl T.Row)) 0 0 false (⟨true,([] : List T.Rx)⟩ : (Sl T.Rx))) (⟨true,([] : List T.Fmt)⟩ : (Sl T.Fmt)) false false) (⟨true,([] : List Bytes)⟩ : (Sl Bytes)) (⟨true,([] : List T.qb)⟩ : (Sl T.qb))),0,false)
 else
  qh b (IntKind.i64.wrap (at_ + 1)) >>= fun b6 =>
  if ((b6.toNat : Int) != 123) then
   some ((T.qb.mk 0 ([] : Bytes) 0 false false (T.Form.mk (T.Rx.mk 0 ([] : Bytes) false (⟨true,([] : List T.Row)⟩ : (Sl T.Row)) 0 0 false (⟨true,([] : List T.Rx)⟩ : (Sl T.Rx))) (⟨true,([] : List T.Fmt)⟩ : (Sl T.Fmt)) false false) (⟨true,([] : List Bytes)⟩ : (Sl Bytes)) (⟨true,([] : List T.qb)⟩ : (Sl T.qb))),0,false)
  else
   q9k (IntKind.i64.wrap (at_ + 2)) b r_ r_2 >>= fun v9 =>
   if ((!v9.2.2) || (decide (v9.2.1 ≥ (b.length : Int)))) then
    some ((T.qb.mk 0 ([] : Bytes) 0 false false (T.Form.mk (T.Rx.mk 0 ([] : Bytes) false (⟨true,([] : List T.Row)⟩ : (Sl T.Row)) 0 0 false (⟨true,([] : List T.Rx)⟩ : (Sl T.Rx))) (⟨true,([] : List T.Fmt)⟩ : (Sl T.Fmt)) false false) (⟨true,([] : List Bytes)⟩ : (Sl Bytes)) (⟨true,([] : List T.qb)⟩ : (Sl T.qb))),0,false)
   else
    qh b v9.2.1 >>= fun b13 =>
    if ((b13.toNat : Int) == 125) then
     some (v9.1,(IntKind.i64.wrap (v9.2.1 + 1)),true)
    else
    if ((b13.toNat : Int) == 58) then
     q96 (IntKind.i64.wrap (v9.2.1 + 1)) true b r_ r_2 >>= fun v17 =>
     some ((T.qb.mk v9.1.kind v9.1.text v9.1.n true v9.1.turned v9.1.form v9.1.opts v17.1),(IntKind.i64.wrap (v17.2 + 1)),(decide (v17.2 ≥ 0)))
    else
    if ((b13.toNat : Int) == 47) then
     qae b v9.2.1 >>= fun v20 =>
     some ((T.qb.mk v9.1.kind v9.1.text v9.1.n v9.1.has true v20.1 v9.1.opts v9.1.kids),(IntKind.i64.wrap (v20.2.1 + 1)),v20.2.2)
    else
    if (((b13.toNat : Int) == 124) && (v9.1.kind == 1)) then
     qbm (IntKind.i64.wrap (v9.2.1 + 1)) b r_ r_2 >>= fun v24 =>
     if ((decide (v24.2 ≥ 0)) && (decide ((IntKind.i64.wrap (v24.2 + 1)) < (b.length : Int)))) then
      qh b (IntKind.i64.wrap (v24.2 + 1)) >>= fun b28 =>
      some ((T.qb.mk 2 v9.1.text v9.1.n v9.1.has v9.1.turned v9.1.form v24.1 v9.1.kids),(IntKind.i64.wrap (v24.2 + 2)),((b28.toNat : Int) == 125))
     else
      some ((T.qb.mk 2 v9.1.text v9.1.n v9.1.has v9.1.turned v9.1.form v24.1 v9.1.kids),(IntKind.i64.wrap (v24.2 + 2)),false)
    else
     some ((T.qb.mk 0 ([] : Bytes) 0 false false (T.Form.mk (T.Rx.mk 0 ([] : Bytes) false (⟨true,([] : List T.Row)⟩ : (Sl T.Row)) 0 0 false (⟨true,([] : List T.Rx)⟩ : (Sl T.Rx))) (⟨true,([] : List T.Fmt)⟩ : (Sl T.Fmt)) false false) (⟨true,([] : List Bytes)⟩ : (Sl Bytes)) (⟨true,([] : List T.qb)⟩ : (Sl T.qb))),0,false)
def q3v : (Bytes × Int × (List T.qb) × (List Int) × Bytes) → Option (((List T.qb) × (List Int)))
 | (s,at_,r0_,r1_,r_) =>
  if (decide (at_ ≥ 0)) then
   qh s at_ >>= fun b3 =>
   if ((b3.toNat : Int) == 36) then
    qb5 at_ r_ r0_ r1_ >>= fun v6 =>
    if v6.2.2 then
     qh r0_ at_ >>= fun x9 =>
     qh r1_ at_ >>= fun x11 =>
     q3v (s,(IntKind.i64.wrap (at_ - 1)),(r0_.set at_.toNat v6.1),(r1_.set at_.toNat v6.2.1),r_)
    else
     q3v (s,(IntKind.i64.wrap (at_ - 1)),r0_,r1_,r_)
   else
    q3v (s,(IntKind.i64.wrap (at_ - 1)),r0_,r1_,r_)
  else
   some (r0_,r1_)
 partial_fixpoint
mutual
def q5n (l : (Sl T.qb)) : Option ((Int)) :=
  q3i (l,0,0) >>= fun v2 =>
  some v2
 partial_fixpoint
def q3i : ((Sl T.qb) × Int × Int) → Option ((Int))
 | (l,n,i) =>
  if (decide (i < (l.l.length : Int))) then
   qh l.l i >>= fun x3 =>
   q5n x3.kids >>= fun v5 =>
   if x3.has then
    q3i (l,(if (IntKind.i64.wrap (v5 + 1)) > n then (IntKind.i64.wrap (v5 + 1)) else n),(IntKind.i64.wrap (i + 1)))
   else
    q3i (l,(if v5 > n then v5 else n),(IntKind.i64.wrap (i + 1)))
  else
   some n
 partial_fixpoint
end
def qaw (s : Bytes) : Option (((Sl T.qb) × Int)) :=
 if (decide ((s.length : Int) > 8192)) then
  some ((⟨true,([] : List T.qb)⟩ : Sl T.qb),4)
 else
  if 0 ≤ (s.length : Int) then
   if ql (s.length : Int).toNat 224 = true then
    if 0 ≤ (s.length : Int) then
     if ql (s.length : Int).toNat 8 = true then
      q3v (s,(IntKind.i64.wrap ((s.length : Int) - 1)),(List.replicate (s.length : Int).toNat (T.qb.mk 0 ([] : Bytes) 0 false false (T.Form.mk (T.Rx.mk 0 ([] : Bytes) false (⟨true,[]⟩ : (Sl T.Row)) 0 0 false (⟨true,[]⟩ : (Sl T.Rx))) (⟨true,[]⟩ : (Sl T.Fmt)) false false) (⟨true,[]⟩ : (Sl Bytes)) (⟨true,[]⟩ : (Sl T.qb)))),(List.replicate (s.length : Int).toNat 0),s) >>= fun v7 =>
      q96 0 false s v7.1 v7.2 >>= fun v9 =>
      q5n v9.1 >>= fun v11 =>
      if (decide (v11 > 32)) then
       some ((⟨true,([] : List T.qb)⟩ : Sl T.qb),8)
      else
       some (v9.1,0)
     else none
    else none
   else none
  else none
def q7y : (Int × T.Rx × T.Rx) → Option (((Bool) ⊕ (Unit)))
 | (i,a,b) =>
  if (decide (i < (a.rows.l.length : Int))) then
   qh a.rows.l i >>= fun x3 =>
   qh b.rows.l i >>= fun x5 =>
   if (!(x3.frm == x5.frm && (x3.to == x5.to))) then
    some (.inl false)
   else
    q7y ((IntKind.i64.wrap (i + 1)),a,b)
  else
   some (.inr ())
 partial_fixpoint
mutual
def q6m : (T.Rx × T.Rx) → Option ((Bool))
 | (a,b) =>
  if ((a.kind != b.kind) || ((!(a.char == b.char)) || ((!(a.not == b.not)) || ((a.min != b.min) || ((a.max != b.max) || ((!(a.lazy == b.lazy)) || (((a.rows.l.length : Int) != (b.rows.l.length : Int)) || ((a.kids.l.length : Int) != (b.kids.l.length : Int))))))))) then
   some false
  else
   q7y (0,a,b) >>= fun v10 =>
   match v10 with
   | .inl y11 =>
    some y11
   | .inr y12 =>
    q8x (0,a,b) >>= fun v14 =>
    match v14 with
    | .inl y15 =>
     some y15
    | .inr y16 =>
     some true
 partial_fixpoint
def q8x : (Int × T.Rx × T.Rx) → Option (((Bool) ⊕ (Unit)))
 | (i,a,b) =>
  if (decide (i < (a.kids.l.length : Int))) then
   qh a.kids.l i >>= fun x3 =>
   qh b.kids.l i >>= fun x5 =>
   q6m (x3,x5) >>= fun v7 =>
   if (!v7) then
    some (.inl false)
   else
    q8x ((IntKind.i64.wrap (i + 1)),a,b)
  else
   some (.inr ())
 partial_fixpoint
end
def q99 : (Int × T.Form × T.Form) → Option (((Bool) ⊕ (Unit)))
 | (i,a,b) =>
  if (decide (i < (a.fmts.l.length : Int))) then
   qh a.fmts.l i >>= fun x3 =>
   qh b.fmts.l i >>= fun x5 =>
   if (!(x3.kind == x5.kind && (x3.n == x5.n && (x3.cas == x5.cas && (x3.thn == x5.thn && (x3.els == x5.els)))))) then
    some (.inl false)
   else
    q99 ((IntKind.i64.wrap (i + 1)),a,b)
  else
   some (.inr ())
 partial_fixpoint
def q71 (a : T.Form) (b : T.Form) : Option ((Bool)) :=
 q6m (a.rx,b.rx) >>= fun v2 =>
 if ((!v2) || ((!(a.fold == b.fold)) || ((!(a.all == b.all)) || ((a.fmts.l.length : Int) != (b.fmts.l.length : Int))))) then
  some false
 else
  q99 (0,a,b) >>= fun v8 =>
  match v8 with
  | .inl y9 =>
   some y9
  | .inr y10 =>
   some true
mutual
def q4y (x : T.Rx) : Option ((Int)) :=
  q4d (1,0,x) >>= fun v2 =>
  some v2
 partial_fixpoint
def q4d : (Int × Int × T.Rx) → Option ((Int))
 | (n,i,x) =>
  if (decide (i < (x.kids.l.length : Int))) then
   qh x.kids.l i >>= fun x3 =>
   q4y x3 >>= fun v5 =>
   q4d ((IntKind.i64.wrap (n + v5)),(IntKind.i64.wrap (i + 1)),x)
  else
   some n
 partial_fixpoint
end
mutual
def q50 (x : T.Rx) : Option ((Int)) :=
  q5x (0,0,x) >>= fun v2 =>
  if ((x.kind == 5) || (x.kind == 6)) then
   some (IntKind.i64.wrap (v2 + 1))
  else
   some v2
 partial_fixpoint
def q5x : (Int × Int × T.Rx) → Option ((Int))
 | (n,i,x) =>
  if (decide (i < (x.kids.l.length : Int))) then
   qh x.kids.l i >>= fun x3 =>
   q50 x3 >>= fun v5 =>
   q5x ((if v5 > n then v5 else n),(IntKind.i64.wrap (i + 1)),x)
  else
   some n
 partial_fixpoint
end
def q4i : (Int × Int × T.Rx) → Option (((Bool) ⊕ (Unit)))
 | (n,i,x) =>
  if (decide (i < n)) then
   qh x.kids.l i >>= fun x3 =>
   if (x3.kind == 0) then
    some (.inl false)
   else
   if (x3.kind == 1) then
    some (.inl false)
   else
    q4i (n,(IntKind.i64.wrap (i + 1)),x)
  else
   some (.inr ())
 partial_fixpoint
def q1o (x : T.Rx) : Option ((Bool)) :=
 if ((x.char == ([] : Bytes)) && ((!x.not) && (((x.rows.l.length : Int) == 0) && ((x.min == 0) && (x.max == 0))))) then
  some (!x.lazy)
 else
  some false
def q5e : (Int × Int × T.Rx) → Option (((Bool) ⊕ (Unit)))
 | (n,i,x) =>
  if (decide (i < n)) then
   qh x.kids.l i >>= fun x3 =>
   if (x3.kind == 1) then
    some (.inl false)
   else
    q5e (n,(IntKind.i64.wrap (i + 1)),x)
  else
   some (.inr ())
 partial_fixpoint
def q47 : ((Sl T.Row) × Int) → Option (((Bool) ⊕ (Unit)))
 | (rows,i) =>
  if (decide (i < (rows.l.length : Int))) then
   qh rows.l i >>= fun x3 =>
   mg x3.frm >>= fun v5 =>
   if (!v5) then
    some (.inl false)
   else
    mg x3.to >>= fun v8 =>
    if ((!v8) || (!(j6 x3.frm x3.to || x3.frm == x3.to))) then
     some (.inl false)
    else
    if (decide (i > 0)) then
     qh rows.l (IntKind.i64.wrap (i - 1)) >>= fun x13 =>
     if (j6 x3.frm x13.to || x3.frm == x13.to) then
      some (.inl false)
     else
      q47 (rows,(IntKind.i64.wrap (i + 1)))
    else
     q47 (rows,(IntKind.i64.wrap (i + 1)))
  else
   some (.inr ())
 partial_fixpoint
def qar (rows : (Sl T.Row)) : Option ((Bool)) :=
 q47 (rows,0) >>= fun v2 =>
 match v2 with
 | .inl y3 =>
  some y3
 | .inr y4 =>
  some true
def qck (x : T.Rx) : Option ((Bool)) :=
 if (((x.kids.l.length : Int) != 1) || ((decide (x.min < 0)) || ((decide (x.min > 255)) || ((x.max != (-1)) && ((decide (x.max < x.min)) || (decide (x.max > 255))))))) then
  some false
 else
  qh x.kids.l 0 >>= fun x17 =>
  q1o (T.Rx.mk x.kind x.char x.not x.rows 0 0 false x.kids) >>= fun v19 =>
  if v19 then
   if ((x17.kind == 2) || ((x17.kind == 3) || ((x17.kind == 4) || (x17.kind == 5)))) then
    some true
   else
    some (x17.kind == 6)
  else
   some false
mutual
def q4r (x : T.Rx) : Option ((Bool)) :=
  q5q ((x.kids.l.length : Int),0,x) >>= fun v2 =>
  match v2 with
  | .inl y3 =>
   some y3
  | .inr y4 =>
   if (x.kind == 0) then
    q4i ((x.kids.l.length : Int),0,x) >>= fun v7 =>
    match v7 with
    | .inl y8 =>
     some y8
    | .inr y9 =>
     q1o x >>= fun v11 =>
     if v11 then
      some ((x.kids.l.length : Int) != 1)
     else
      some false
   else
   if (x.kind == 1) then
    q5e ((x.kids.l.length : Int),0,x) >>= fun v15 =>
    match v15 with
    | .inl y16 =>
     some y16
    | .inr y17 =>
     q1o x >>= fun v19 =>
     if v19 then
      some (decide ((x.kids.l.length : Int) ≥ 2))
     else
      some false
   else
   if (x.kind == 2) then
    q1o (T.Rx.mk x.kind ([] : Bytes) x.not x.rows x.min x.max x.lazy x.kids) >>= fun v23 =>
    if (v23 && ((x.kids.l.length : Int) == 0)) then
     mg x.char >>= fun v27 =>
     some v27
    else
     some false
   else
   if ((x.kind == 3) || ((x.kind == 8) || ((x.kind == 9) || ((x.kind == 10) || (x.kind == 11))))) then
    q1o x >>= fun v30 =>
    if v30 then
     some ((x.kids.l.length : Int) == 0)
    else
     some false
   else
   if (x.kind == 4) then
    q1o (T.Rx.mk x.kind x.char false (⟨true,([] : List T.Row)⟩ : (Sl T.Row)) x.min x.max x.lazy x.kids) >>= fun v50 =>
    if (v50 && ((x.kids.l.length : Int) == 0)) then
     qar x.rows >>= fun v54 =>
     some v54
    else
     some false
   else
   if ((x.kind == 5) || (x.kind == 6)) then
    q1o x >>= fun v57 =>
    if v57 then
     some ((x.kids.l.length : Int) == 1)
    else
     some false
   else
   if (x.kind == 7) then
    qck x >>= fun v65 =>
    some v65
   else
    some false
 partial_fixpoint
def q5q : (Int × Int × T.Rx) → Option (((Bool) ⊕ (Unit)))
 | (n,i,x) =>
  if (decide (i < n)) then
   qh x.kids.l i >>= fun x3 =>
   q4r x3 >>= fun v5 =>
   if (!v5) then
    some (.inl false)
   else
    q5q (n,(IntKind.i64.wrap (i + 1)),x)
  else
   some (.inr ())
 partial_fixpoint
end
def q7m (x : T.Rx) : Option ((Bool)) :=
 q4y x >>= fun v2 =>
 if (decide (v2 ≤ 512)) then
  q50 x >>= fun v5 =>
  if (decide (v5 ≤ 16)) then
   q4r x >>= fun v8 =>
   some v8
  else
   some false
 else
  some false
def uf : ((Sl T.Fmt) × Int) → Option (((Bool) ⊕ (Unit)))
 | (fs,i) =>
  if (decide (i < (fs.l.length : Int))) then
   qh fs.l i >>= fun x3 =>
   if (decide (x3.n ≥ 0)) then
    if (x3.kind == 0) then
     if ((x3.n == 0) && ((x3.cas == 0) && ((x3.els == ([] : Bytes)) && (!(x3.thn == ([] : Bytes)))))) then
      if (i == 0) then
       uf (fs,(IntKind.i64.wrap (i + 1)))
      else
       qh fs.l (IntKind.i64.wrap (i - 1)) >>= fun x12 =>
       if (!(x12.kind != 0)) then
        some (.inl false)
       else
        uf (fs,(IntKind.i64.wrap (i + 1)))
     else
      some (.inl false)
    else
    if (x3.kind == 1) then
     if ((decide (x3.n ≤ 9999)) && ((x3.cas == 0) && (x3.thn == ([] : Bytes)))) then
      if (!(x3.els == ([] : Bytes))) then
       some (.inl false)
      else
       uf (fs,(IntKind.i64.wrap (i + 1)))
     else
      some (.inl false)
    else
    if (x3.kind == 2) then
     if (decide (x3.n ≤ 9999)) then
      q90 x3.cas >>= fun v22 =>
      if ((!(v22 == ([] : Bytes))) && (x3.thn == ([] : Bytes))) then
       if (!(x3.els == ([] : Bytes))) then
        some (.inl false)
       else
        uf (fs,(IntKind.i64.wrap (i + 1)))
      else
       some (.inl false)
     else
      some (.inl false)
    else
    if (x3.kind == 3) then
     if ((decide (x3.n ≤ 9999)) && (x3.cas == 0)) then
      if (!(x3.els == ([] : Bytes))) then
       some (.inl false)
      else
       uf (fs,(IntKind.i64.wrap (i + 1)))
     else
      some (.inl false)
    else
    if (x3.kind == 4) then
     if ((decide (x3.n ≤ 9999)) && (x3.cas == 0)) then
      if (!(x3.thn == ([] : Bytes))) then
       some (.inl false)
      else
       uf (fs,(IntKind.i64.wrap (i + 1)))
     else
      some (.inl false)
    else
    if ((x3.kind == 5) && (decide (x3.n ≤ 9999))) then
     if (!(x3.cas == 0)) then
      some (.inl false)
     else
      uf (fs,(IntKind.i64.wrap (i + 1)))
    else
     some (.inl false)
   else
   if (x3.kind == 0) then
    if ((x3.n == 0) && ((x3.cas == 0) && ((x3.els == ([] : Bytes)) && (!(x3.thn == ([] : Bytes)))))) then
     if (i == 0) then
      uf (fs,(IntKind.i64.wrap (i + 1)))
     else
      qh fs.l (IntKind.i64.wrap (i - 1)) >>= fun x44 =>
      if (!(x44.kind != 0)) then
       some (.inl false)
      else
       uf (fs,(IntKind.i64.wrap (i + 1)))
    else
     some (.inl false)
   else
   if ((x3.kind == 1) || ((x3.kind == 2) || ((x3.kind == 3) || ((x3.kind == 4) || (x3.kind == 5))))) then
    some (.inl false)
   else
    some (.inl false)
  else
   some (.inr ())
 partial_fixpoint
def q8h (fs : (Sl T.Fmt)) : Option ((Bool)) :=
 uf (fs,0) >>= fun v2 =>
 match v2 with
 | .inl y3 =>
  some y3
 | .inr y4 =>
  some true
def q92 (f : T.Form) : Option ((Bool)) :=
 q7m f.rx >>= fun v2 =>
 if v2 then
  q8h f.fmts >>= fun v5 =>
  some v5
 else
  some false
mutual
def q1u (l : (Sl T.qb)) : Option ((Bool)) :=
  jw (l,0) >>= fun v2 =>
  match v2 with
  | .inl y3 =>
   some y3
  | .inr y4 =>
   some true
 partial_fixpoint
def jw : ((Sl T.qb) × Int) → Option (((Bool) ⊕ (Unit)))
 | (l,i) =>
  if (decide (i < (l.l.length : Int))) then
   qh l.l i >>= fun x3 =>
   if ((!x3.has) && (!x3.turned)) then
    q71 x3.form (T.Form.mk (T.Rx.mk 0 ([] : Bytes) false (⟨true,([] : List T.Row)⟩ : (Sl T.Row)) 0 0 false (⟨true,([] : List T.Rx)⟩ : (Sl T.Rx))) (⟨true,([] : List T.Fmt)⟩ : (Sl T.Fmt)) false false) >>= fun v7 =>
    if v7 then
     if (decide (x3.n ≥ 0)) then
      if (x3.kind == 0) then
       if (((x3.kids.l.length : Int) == 0) && ((x3.n == 0) && (((x3.opts.l.length : Int) == 0) && (!(x3.text == ([] : Bytes)))))) then
        if (i == 0) then
         jw (l,(IntKind.i64.wrap (i + 1)))
        else
         qh l.l (IntKind.i64.wrap (i - 1)) >>= fun x17 =>
         if (!(x17.kind != 0)) then
          some (.inl false)
         else
          jw (l,(IntKind.i64.wrap (i + 1)))
       else
        some (.inl false)
      else
      if (x3.kind == 1) then
       if ((decide (x3.n ≤ 9999)) && (x3.text == ([] : Bytes))) then
        mh x3 >>= fun v23 =>
        if (!v23) then
         some (.inl false)
        else
         jw (l,(IntKind.i64.wrap (i + 1)))
       else
        some (.inl false)
      else
      if (x3.kind == 2) then
       if ((decide (x3.n ≤ 9999)) && ((x3.text == ([] : Bytes)) && ((x3.kids.l.length : Int) == 0))) then
        if (!(decide ((x3.opts.l.length : Int) > 0))) then
         some (.inl false)
        else
         jw (l,(IntKind.i64.wrap (i + 1)))
       else
        some (.inl false)
      else
      if ((x3.kind == 3) && (x3.n == 0)) then
       bf x3.text >>= fun v33 =>
       if v33 then
        mh x3 >>= fun v36 =>
        if (!v36) then
         some (.inl false)
        else
         jw (l,(IntKind.i64.wrap (i + 1)))
       else
        some (.inl false)
      else
       some (.inl false)
     else
     if (x3.kind == 0) then
      if (((x3.kids.l.length : Int) == 0) && ((x3.n == 0) && (((x3.opts.l.length : Int) == 0) && (!(x3.text == ([] : Bytes)))))) then
       if (i == 0) then
        jw (l,(IntKind.i64.wrap (i + 1)))
       else
        qh l.l (IntKind.i64.wrap (i - 1)) >>= fun x45 =>
        if (!(x45.kind != 0)) then
         some (.inl false)
        else
         jw (l,(IntKind.i64.wrap (i + 1)))
      else
       some (.inl false)
     else
     if ((x3.kind == 1) || (x3.kind == 2)) then
      some (.inl false)
     else
     if ((x3.kind == 3) && (x3.n == 0)) then
      bf x3.text >>= fun v52 =>
      if v52 then
       mh x3 >>= fun v55 =>
       if (!v55) then
        some (.inl false)
       else
        jw (l,(IntKind.i64.wrap (i + 1)))
      else
       some (.inl false)
     else
      some (.inl false)
    else
    if (decide (x3.n ≥ 0)) then
     if (x3.kind == 0) then
      some (.inl false)
     else
     if (x3.kind == 1) then
      if ((decide (x3.n ≤ 9999)) && (x3.text == ([] : Bytes))) then
       mh x3 >>= fun v63 =>
       if (!v63) then
        some (.inl false)
       else
        jw (l,(IntKind.i64.wrap (i + 1)))
      else
       some (.inl false)
     else
     if (x3.kind == 2) then
      if ((decide (x3.n ≤ 9999)) && (x3.text == ([] : Bytes))) then
       some (.inl false)
      else
       some (.inl false)
     else
     if ((x3.kind == 3) && (x3.n == 0)) then
      bf x3.text >>= fun v71 =>
      if v71 then
       mh x3 >>= fun v74 =>
       if (!v74) then
        some (.inl false)
       else
        jw (l,(IntKind.i64.wrap (i + 1)))
      else
       some (.inl false)
     else
      some (.inl false)
    else
    if ((x3.kind == 0) || ((x3.kind == 1) || (x3.kind == 2))) then
     some (.inl false)
    else
    if ((x3.kind == 3) && (x3.n == 0)) then
     bf x3.text >>= fun v82 =>
     if v82 then
      mh x3 >>= fun v85 =>
      if (!v85) then
       some (.inl false)
      else
       jw (l,(IntKind.i64.wrap (i + 1)))
     else
      some (.inl false)
    else
     some (.inl false)
   else
   if (decide (x3.n ≥ 0)) then
    if (x3.kind == 0) then
     some (.inl false)
    else
    if (x3.kind == 1) then
     if ((decide (x3.n ≤ 9999)) && (x3.text == ([] : Bytes))) then
      mh x3 >>= fun v123 =>
      if (!v123) then
       some (.inl false)
      else
       jw (l,(IntKind.i64.wrap (i + 1)))
     else
      some (.inl false)
    else
    if (x3.kind == 2) then
     if ((decide (x3.n ≤ 9999)) && (x3.text == ([] : Bytes))) then
      some (.inl false)
     else
      some (.inl false)
    else
    if ((x3.kind == 3) && (x3.n == 0)) then
     bf x3.text >>= fun v131 =>
     if v131 then
      mh x3 >>= fun v134 =>
      if (!v134) then
       some (.inl false)
      else
       jw (l,(IntKind.i64.wrap (i + 1)))
     else
      some (.inl false)
    else
     some (.inl false)
   else
   if ((x3.kind == 0) || ((x3.kind == 1) || (x3.kind == 2))) then
    some (.inl false)
   else
   if ((x3.kind == 3) && (x3.n == 0)) then
    bf x3.text >>= fun v142 =>
    if v142 then
     mh x3 >>= fun v145 =>
     if (!v145) then
      some (.inl false)
     else
      jw (l,(IntKind.i64.wrap (i + 1)))
    else
     some (.inl false)
   else
    some (.inl false)
  else
   some (.inr ())
 partial_fixpoint
def mh (x : T.qb) : Option ((Bool)) :=
  if (decide ((x.opts.l.length : Int) > 0)) then
   some false
  else
  if x.has then
   if x.turned then
    some false
   else
    q71 x.form (T.Form.mk (T.Rx.mk 0 ([] : Bytes) false (⟨true,([] : List T.Row)⟩ : (Sl T.Row)) 0 0 false (⟨true,([] : List T.Rx)⟩ : (Sl T.Rx))) (⟨true,([] : List T.Fmt)⟩ : (Sl T.Fmt)) false false) >>= fun v5 =>
    if v5 then
     q1u x.kids >>= fun v8 =>
     some v8
    else
     some false
  else
  if (decide ((x.kids.l.length : Int) > 0)) then
   some false
  else
  if x.turned then
   q92 x.form >>= fun v12 =>
   some v12
  else
   q71 x.form (T.Form.mk (T.Rx.mk 0 ([] : Bytes) false (⟨true,([] : List T.Row)⟩ : (Sl T.Row)) 0 0 false (⟨true,([] : List T.Rx)⟩ : (Sl T.Rx))) (⟨true,([] : List T.Fmt)⟩ : (Sl T.Fmt)) false false) >>= fun v14 =>
   if v14 then
    q1u x.kids >>= fun v17 =>
    some v17
   else
    some false
 partial_fixpoint
end
def qbn (l : (Sl T.qb)) : Option ((Bool)) :=
 q5n l >>= fun v2 =>
 if (decide (v2 ≤ 32)) then
  q1u l >>= fun v5 =>
  some v5
 else
  some false
def uw : (Bytes × Bytes × Bytes × Bool × Int × (List UInt8)) → Option (((List UInt8)))
 | (s,lead,unit,behind,i,b) =>
  if (decide (i < (s.length : Int))) then
   if behind then
    qh s i >>= fun b4 =>
    if ((b4.toNat : Int) == 9) then
     if (!(unit == ([] : Bytes))) then
      if (b.isEmpty && unit.isEmpty) then
       uw (s,lead,unit,behind,(IntKind.i64.wrap (i + 1)),b)
      else
       if ql (b.length + unit.length) 1 = true then
        uw (s,lead,unit,behind,(IntKind.i64.wrap (i + 1)),(b ++ unit))
       else none
     else
      if ql (b.length + 1) 1 = true then
       if ((b4.toNat : Int) == 10) then
        if ql ((b ++ [b4]).length + lead.length) 1 = true then
         uw (s,lead,unit,true,(IntKind.i64.wrap (i + 1)),((b ++ [b4]) ++ lead))
        else none
       else
        uw (s,lead,unit,true,(IntKind.i64.wrap (i + 1)),(b ++ [b4]))
      else none
    else
     if ql (b.length + 1) 1 = true then
      if ((b4.toNat : Int) == 10) then
       if ql ((b ++ [b4]).length + lead.length) 1 = true then
        uw (s,lead,unit,((b4.toNat : Int) == 10),(IntKind.i64.wrap (i + 1)),((b ++ [b4]) ++ lead))
       else none
      else
       uw (s,lead,unit,((b4.toNat : Int) == 10),(IntKind.i64.wrap (i + 1)),(b ++ [b4]))
     else none
   else
    qh s i >>= fun b16 =>
    if ql (b.length + 1) 1 = true then
     if ((b16.toNat : Int) == 10) then
      if ql ((b ++ [b16]).length + lead.length) 1 = true then
       uw (s,lead,unit,((b16.toNat : Int) == 10),(IntKind.i64.wrap (i + 1)),((b ++ [b16]) ++ lead))
      else none
     else
      uw (s,lead,unit,((b16.toNat : Int) == 10),(IntKind.i64.wrap (i + 1)),(b ++ [b16]))
    else none
  else
   some b
 partial_fixpoint
def q5f (s : Bytes) (lead : Bytes) (unit : Bytes) : Option ((Bytes)) :=
 uw (s,lead,unit,false,0,([] : List UInt8)) >>= fun v2 =>
 some v2
def um (p_ : T.qc) (b : (Sl T.qi)) (b_2 : Bytes) (b_3 : Bytes) (r_ : (List T.qc)) (r_2 : (List Int)) (r_3 : (List Bytes)) : Option (((List T.qc))) :=
 if ql (r_.length + 1) 216 = true then
  some (r_ ++ [(T.qc.mk p_.kind p_.text p_.n p_.def_ p_.first p_.turned p_.form p_.opts p_.up (IntKind.i64.wrap ((r_.length : Int) + 1)))])
 else none
def q4u : (Bytes × (Sl T.qi) × Int) → Option (((Bytes × Bool) ⊕ (Unit)))
 | (name,env,i) =>
  if (decide (i < (env.l.length : Int))) then
   qh env.l i >>= fun x3 =>
   if (x3.name == name) then
    some (.inl (x3.value,true))
   else
    q4u (name,env,(IntKind.i64.wrap (i + 1)))
  else
   some (.inr ())
 partial_fixpoint
def q80 (name : Bytes) (env : (Sl T.qi)) : Option ((Bytes × Bool)) :=
 q4u (name,env,0) >>= fun v2 =>
 match v2 with
 | .inl y3 =>
  some (y3.1,y3.2)
 | .inr y4 =>
  some (([] : Bytes),false)
def qee : Option (((Sl Bytes))) :=
 some (⟨false,[([84,77,95,83,69,76,69,67,84,69,68,95,84,69,88,84] : Bytes),([84,77,95,67,85,82,82,69,78,84,95,76,73,78,69] : Bytes),([84,77,95,67,85,82,82,69,78,84,95,87,79,82,68] : Bytes),([84,77,95,76,73,78,69,95,73,78,68,69,88] : Bytes),([84,77,95,76,73,78,69,95,78,85,77,66,69,82] : Bytes),([84,77,95,70,73,76,69,78,65,77,69] : Bytes),([84,77,95,70,73,76,69,78,65,77,69,95,66,65,83,69] : Bytes),([84,77,95,68,73,82,69,67,84,79,82,89] : Bytes),([84,77,95,70,73,76,69,80,65,84,72] : Bytes),([67,76,73,80,66,79,65,82,68] : Bytes),([87,79,82,75,83,80,65,67,69,95,78,65,77,69] : Bytes),([82,65,78,68,79,77] : Bytes),([82,65,78,68,79,77,95,72,69,88] : Bytes),([85,85,73,68] : Bytes),([67,85,82,82,69,78,84,95,89,69,65,82] : Bytes),([67,85,82,82,69,78,84,95,77,79,78,84,72] : Bytes),([67,85,82,82,69,78,84,95,68,65,84,69] : Bytes),([67,85,82,82,69,78,84,95,72,79,85,82] : Bytes),([67,85,82,82,69,78,84,95,77,73,78,85,84,69] : Bytes),([67,85,82,82,69,78,84,95,83,69,67,79,78,68] : Bytes),([73,78,68,69,78,84] : Bytes)]⟩ : Sl Bytes)
def q5l : (Bytes × (Sl Bytes) × Int) → Option (((Bool) ⊕ (Unit)))
 | (name,l,i) =>
  if (decide (i < (l.l.length : Int))) then
   qh l.l i >>= fun x3 =>
   if (x3 == name) then
    some (.inl true)
   else
    q5l (name,l,(IntKind.i64.wrap (i + 1)))
  else
   some (.inr ())
 partial_fixpoint
def q9e (name : Bytes) : Option ((Bool)) :=
 qee >>= fun v2 =>
 q5l (name,v2,0) >>= fun v4 =>
 match v4 with
 | .inl y5 =>
  some y5
 | .inr y6 =>
  some false
def q58 : (Bytes × Int × (Sl T.qi) × Bytes × Bytes × (List T.qc) × (List Int) × (List Bytes)) → Option (((Int) ⊕ (Unit)))
 | (name,i,w,w2,w3,r1_,r2_,r3_) =>
  if (decide (i < (r3_.length : Int))) then
   qh r3_ i >>= fun x3 =>
   if (x3 == name) then
    some (.inl (IntKind.i64.wrap ((-1) - i)))
   else
    q58 (name,(IntKind.i64.wrap (i + 1)),w,w2,w3,r1_,r2_,r3_)
  else
   some (.inr ())
 partial_fixpoint
def q88 (name : Bytes) (b : (Sl T.qi)) (b_2 : Bytes) (b_3 : Bytes) (r_ : (List T.qc)) (r_2 : (List Int)) (r_3 : (List Bytes)) : Option ((Int × (List Bytes))) :=
 q58 (name,0,b,b_2,b_3,r_,r_2,r_3) >>= fun v2 =>
 match v2 with
 | .inl y3 =>
  some (y3,r_3)
 | .inr y4 =>
  if ql (r_3.length + 1) 16 = true then
   some ((IntKind.i64.wrap (0 - ((r_3 ++ [name]).length : Int))),(r_3 ++ [name]))
  else none
def q4e : (Int × Int × (List Int)) → Option (((Bool) ⊕ (Unit)))
 | (n,i,l) =>
  if (decide (i < (l.length : Int))) then
   qh l i >>= fun x3 =>
   if (x3 == n) then
    some (.inl true)
   else
    q4e (n,(IntKind.i64.wrap (i + 1)),l)
  else
   some (.inr ())
 partial_fixpoint
def q2w (n : Int) (r_ : (List Int)) : Option ((Bool)) :=
 q4e (n,0,r_) >>= fun v2 =>
 match v2 with
 | .inl y3 =>
  some y3
 | .inr y4 =>
  some false
def q7i : (Bool × Int × Int × (Sl T.qi) × Bytes × Bytes × (List T.qb) × (List T.qc) × (List Int) × (List Bytes) × Int × Bytes × Int × Bool × Bool × Int × Bytes × Bool × (Sl T.Row) × Int × Int × Bool × (Sl T.Rx) × (Sl T.Fmt) × Bool × Bool × (Sl Bytes) × Int × Bytes × Int × Bool × Bool × Bool × Int × Bytes × Bool × (Sl T.Row) × Int × Int × Bool × (Sl T.Rx) × (Sl T.Fmt) × Bool × Bool × Int × Int × (List Bytes)) → Option (((List Bytes)))
 | (plain,at_,i,w,w2,w3,r1_,r2_,r3_,r4_,x,x_2,x_3,x_4,x_5,x_6,x_7,x_8,x_9,x_10,x_11,x_12,x_13,x_14,x_15,x_16,x_17,p_,p_2,p_3,p_4,p_5,p_6,p_7,p_8,p_9,p_10,p_11,p_12,p_13,p_14,p_15,p_16,p_17,p_18,p_19,r7_) =>
  if (p_4 && (decide (i < (x_17.l.length : Int)))) then
   qh x_17.l i >>= fun x4 =>
   q5f x4 w2 w3 >>= fun v6 =>
   if ql (r7_.length + 1) 16 = true then
    q7i (plain,at_,(IntKind.i64.wrap (i + 1)),w,w2,w3,r1_,r2_,r3_,r4_,x,x_2,x_3,x_4,x_5,x_6,x_7,x_8,x_9,x_10,x_11,x_12,x_13,x_14,x_15,x_16,x_17,p_,p_2,p_3,p_4,p_5,p_6,p_7,p_8,p_9,p_10,p_11,p_12,p_13,p_14,p_15,p_16,p_17,p_18,p_19,(r7_ ++ [v6]))
   else none
  else
   some r7_
 partial_fixpoint
def q1t : (Bool × Int × Int × (Sl T.qi) × Bytes × Bytes × (List T.qc) × (List Int) × (List Bytes) × T.qb × Int × Bytes × Int × Bool × Bool × Bool × Int × Bytes × Bool × (Sl T.Row) × Int × Int × Bool × (Sl T.Rx) × (Sl T.Fmt) × Bool × Bool × Int × Int × (List Bytes)) → Option (((List Bytes)))
 | (plain,at_,i,w,w2,w3,r1_,r2_,r3_,x,p_,p_2,p_3,p_4,p_5,p_6,p_7,p_8,p_9,p_10,p_11,p_12,p_13,p_14,p_15,p_16,p_17,p_18,p_19,r6_) =>
  if (p_4 && (decide (i < (x.opts.l.length : Int)))) then
   qh x.opts.l i >>= fun x4 =>
   q5f x4 w2 w3 >>= fun v6 =>
   if ql (r6_.length + 1) 16 = true then
    q1t (plain,at_,(IntKind.i64.wrap (i + 1)),w,w2,w3,r1_,r2_,r3_,x,p_,p_2,p_3,p_4,p_5,p_6,p_7,p_8,p_9,p_10,p_11,p_12,p_13,p_14,p_15,p_16,p_17,p_18,p_19,(r6_ ++ [v6]))
   else none
  else
   some r6_
 partial_fixpoint
mutual
def q0w : ((Sl T.qb) × Int × (Sl T.qi) × Bytes × Bytes × (List T.qc) × (List Int) × (List Bytes)) → Option (((Sl T.qi) × Bytes × Bytes × (List T.qc) × (List Int) × (List Bytes)))
 | (l,up,b,b_2,b_3,r_,r_2,r_3) =>
  nu (l,up,0,b,b_2,b_3,r_,r_2,r_3) >>= fun v2 =>
  some (v2.1,v2.2.1,v2.2.2.1,v2.2.2.2.1,v2.2.2.2.2.1,v2.2.2.2.2.2)
 partial_fixpoint
def nu : ((Sl T.qb) × Int × Int × (Sl T.qi) × Bytes × Bytes × (List T.qc) × (List Int) × (List Bytes)) → Option (((Sl T.qi) × Bytes × Bytes × (List T.qc) × (List Int) × (List Bytes)))
 | (l,up,i,w,w2,w3,r1_,r2_,r3_) =>
  if (decide (i < (l.l.length : Int))) then
   qh l.l i >>= fun x3 =>
   if (x3.kind == 0) then
    q5f x3.text w2 w3 >>= fun v6 =>
    um (T.qc.mk 0 v6 0 false false false (T.Form.mk (T.Rx.mk 0 ([] : Bytes) false (⟨true,([] : List T.Row)⟩ : (Sl T.Row)) 0 0 false (⟨true,([] : List T.Rx)⟩ : (Sl T.Rx))) (⟨true,([] : List T.Fmt)⟩ : (Sl T.Fmt)) false false) (⟨true,([] : List Bytes)⟩ : (Sl Bytes)) up 0) w w2 w3 r1_ r2_ r3_ >>= fun v8 =>
    nu (l,up,(IntKind.i64.wrap (i + 1)),w,w2,w3,v8,r2_,r3_)
   else
   if (x3.kind == 3) then
    q80 x3.text w >>= fun v11 =>
    if v11.2 then
     um (T.qc.mk 2 v11.1 0 false false x3.turned x3.form (⟨true,([] : List Bytes)⟩ : (Sl Bytes)) up 0) w w2 w3 r1_ r2_ r3_ >>= fun v14 =>
     nu (l,up,(IntKind.i64.wrap (i + 1)),w,w2,w3,v14,r2_,r3_)
    else
    if x3.has then
     q0w (x3.kids,up,w,w2,w3,r1_,r2_,r3_) >>= fun v17 =>
     nu (l,up,(IntKind.i64.wrap (i + 1)),v17.1,v17.2.1,v17.2.2.1,v17.2.2.2.1,v17.2.2.2.2.1,v17.2.2.2.2.2)
    else
     q9e x3.text >>= fun v19 =>
     if (v19 || x3.turned) then
      um (T.qc.mk 2 ([] : Bytes) 0 false false x3.turned x3.form (⟨true,([] : List Bytes)⟩ : (Sl Bytes)) up 0) w w2 w3 r1_ r2_ r3_ >>= fun v22 =>
      nu (l,up,(IntKind.i64.wrap (i + 1)),w,w2,w3,v22,r2_,r3_)
     else
      q88 x3.text w w2 w3 r1_ r2_ r3_ >>= fun v27 =>
      q8b (1,([] : Bytes),v27.1,true,false,0,([] : Bytes),false,(⟨true,([] : List T.Row)⟩ : Sl T.Row),0,0,false,(⟨true,([] : List T.Rx)⟩ : Sl T.Rx),(⟨true,([] : List T.Fmt)⟩ : Sl T.Fmt),false,false,(⟨true,([] : List Bytes)⟩ : Sl Bytes),up,true,w,w2,w3,[(T.qb.mk 0 x3.text 0 false false (T.Form.mk (T.Rx.mk 0 ([] : Bytes) false (⟨true,[]⟩ : (Sl T.Row)) 0 0 false (⟨true,[]⟩ : (Sl T.Rx))) (⟨true,[]⟩ : (Sl T.Fmt)) false false) (⟨true,[]⟩ : (Sl Bytes)) (⟨true,[]⟩ : (Sl T.qb)))],r1_,r2_,v27.2) >>= fun v29 =>
      match v29 with
      | .inl y30 =>
       nu (l,up,(IntKind.i64.wrap (i + 1)),w,w2,w3,y30.1,y30.2,v27.2)
      | .inr y31 =>
       nu (l,up,(IntKind.i64.wrap (i + 1)),y31.1,y31.2.1,y31.2.2.1,y31.2.2.2.1,y31.2.2.2.2.1,y31.2.2.2.2.2)
   else
    q7v (x3,up,false,w,w2,w3,r1_,r2_,r3_) >>= fun v33 =>
    nu (l,up,(IntKind.i64.wrap (i + 1)),v33.1,v33.2.1,v33.2.2.1,v33.2.2.2.1,v33.2.2.2.2.1,v33.2.2.2.2.2)
  else
   some (w,w2,w3,r1_,r2_,r3_)
 partial_fixpoint
def q8b : (Int × Bytes × Int × Bool × Bool × Int × Bytes × Bool × (Sl T.Row) × Int × Int × Bool × (Sl T.Rx) × (Sl T.Fmt) × Bool × Bool × (Sl Bytes) × Int × Bool × (Sl T.qi) × Bytes × Bytes × (List T.qb) × (List T.qc) × (List Int) × (List Bytes)) → Option ((((List T.qc) × (List Int)) ⊕ ((Sl T.qi) × Bytes × Bytes × (List T.qc) × (List Int) × (List Bytes))))
 | (x,x_2,x_3,x_4,x_5,x_6,x_7,x_8,x_9,x_10,x_11,x_12,x_13,x_14,x_15,x_16,x_17,up,plain,b,b_2,b_3,r_,r_2,r_3,r_4) =>
  if (x_4 || (x == 2)) then
   q2w x_3 r_3 >>= fun v3 =>
   q7i (plain,(r_2.length : Int),0,b,b_2,b_3,r_,r_2,r_3,r_4,x,x_2,x_3,x_4,x_5,x_6,x_7,x_8,x_9,x_10,x_11,x_12,x_13,x_14,x_15,x_16,x_17,1,([] : Bytes),x_3,(!v3),false,x_5,x_6,x_7,x_8,x_9,x_10,x_11,x_12,x_13,x_14,x_15,x_16,up,0,([] : List Bytes)) >>= fun v5 =>
   um (T.qc.mk 1 ([] : Bytes) x_3 (!v3) false x_5 (T.Form.mk (T.Rx.mk x_6 x_7 x_8 x_9 x_10 x_11 x_12 x_13) x_14 x_15 x_16) (⟨v5.isEmpty,v5⟩ : (Sl Bytes)) up 0) b b_2 b_3 r_2 r_3 r_4 >>= fun v7 =>
   if (!(!v3)) then
    some (.inl (v7,r_3))
   else
    if ql (r_3.length + 1) 8 = true then
     if plain then
      qh r_ 0 >>= fun x12 =>
      um (T.qc.mk 0 x12.text 0 false false false (T.Form.mk (T.Rx.mk 0 ([] : Bytes) false (⟨true,([] : List T.Row)⟩ : (Sl T.Row)) 0 0 false (⟨true,([] : List T.Rx)⟩ : (Sl T.Rx))) (⟨true,([] : List T.Fmt)⟩ : (Sl T.Fmt)) false false) (⟨true,([] : List Bytes)⟩ : (Sl Bytes)) (r_2.length : Int) 0) b b_2 b_3 v7 (r_3 ++ [x_3]) r_4 >>= fun v14 =>
      qh v14 (r_2.length : Int) >>= fun x16 =>
      some (.inl ((v14.set ((r_2.length : Int).toNat) (T.qc.mk x16.kind x16.text x16.n x16.def_ x16.first x16.turned x16.form x16.opts x16.up (v14.length : Int))),(r_3 ++ [x_3])))
     else
      q0w ((⟨false,r_⟩ : Sl T.qb),(r_2.length : Int),b,b_2,b_3,v7,(r_3 ++ [x_3]),r_4) >>= fun v18 =>
      qh v18.2.2.2.1 (r_2.length : Int) >>= fun x20 =>
      some (.inr (v18.1,v18.2.1,v18.2.2.1,(v18.2.2.2.1.set ((r_2.length : Int).toNat) (T.qc.mk x20.kind x20.text x20.n x20.def_ x20.first x20.turned x20.form x20.opts x20.up (v18.2.2.2.1.length : Int))),v18.2.2.2.2.1,v18.2.2.2.2.2))
    else none
  else
   q7i (plain,(r_2.length : Int),0,b,b_2,b_3,r_,r_2,r_3,r_4,x,x_2,x_3,x_4,x_5,x_6,x_7,x_8,x_9,x_10,x_11,x_12,x_13,x_14,x_15,x_16,x_17,1,([] : Bytes),x_3,false,false,x_5,x_6,x_7,x_8,x_9,x_10,x_11,x_12,x_13,x_14,x_15,x_16,up,0,([] : List Bytes)) >>= fun v42 =>
   um (T.qc.mk 1 ([] : Bytes) x_3 false false x_5 (T.Form.mk (T.Rx.mk x_6 x_7 x_8 x_9 x_10 x_11 x_12 x_13) x_14 x_15 x_16) (⟨v42.isEmpty,v42⟩ : (Sl Bytes)) up 0) b b_2 b_3 r_2 r_3 r_4 >>= fun v44 =>
   some (.inl (v44,r_3))
 partial_fixpoint
def q7v : (T.qb × Int × Bool × (Sl T.qi) × Bytes × Bytes × (List T.qc) × (List Int) × (List Bytes)) → Option (((Sl T.qi) × Bytes × Bytes × (List T.qc) × (List Int) × (List Bytes)))
 | (x,up,plain,b,b_2,b_3,r_,r_2,r_3) =>
  if (x.has || (x.kind == 2)) then
   q2w x.n r_2 >>= fun v3 =>
   q1t (plain,(r_.length : Int),0,b,b_2,b_3,r_,r_2,r_3,x,1,([] : Bytes),x.n,(!v3),false,x.turned,x.form.rx.kind,x.form.rx.char,x.form.rx.not,x.form.rx.rows,x.form.rx.min,x.form.rx.max,x.form.rx.lazy,x.form.rx.kids,x.form.fmts,x.form.fold,x.form.all,up,0,([] : List Bytes)) >>= fun v5 =>
   um (T.qc.mk 1 ([] : Bytes) x.n (!v3) false x.turned x.form (⟨v5.isEmpty,v5⟩ : (Sl Bytes)) up 0) b b_2 b_3 r_ r_2 r_3 >>= fun v7 =>
   if (!(!v3)) then
    some (b,b_2,b_3,v7,r_2,r_3)
   else
    if ql (r_2.length + 1) 8 = true then
     if plain then
      qh x.kids.l 0 >>= fun x12 =>
      um (T.qc.mk 0 x12.text 0 false false false (T.Form.mk (T.Rx.mk 0 ([] : Bytes) false (⟨true,([] : List T.Row)⟩ : (Sl T.Row)) 0 0 false (⟨true,([] : List T.Rx)⟩ : (Sl T.Rx))) (⟨true,([] : List T.Fmt)⟩ : (Sl T.Fmt)) false false) (⟨true,([] : List Bytes)⟩ : (Sl Bytes)) (r_.length : Int) 0) b b_2 b_3 v7 (r_2 ++ [x.n]) r_3 >>= fun v14 =>
      qh v14 (r_.length : Int) >>= fun x16 =>
      some (b,b_2,b_3,(v14.set ((r_.length : Int).toNat) (T.qc.mk x16.kind x16.text x16.n x16.def_ x16.first x16.turned x16.form x16.opts x16.up (v14.length : Int))),(r_2 ++ [x.n]),r_3)
     else
      q0w (x.kids,(r_.length : Int),b,b_2,b_3,v7,(r_2 ++ [x.n]),r_3) >>= fun v18 =>
      qh v18.2.2.2.1 (r_.length : Int) >>= fun x20 =>
      some (v18.1,v18.2.1,v18.2.2.1,(v18.2.2.2.1.set ((r_.length : Int).toNat) (T.qc.mk x20.kind x20.text x20.n x20.def_ x20.first x20.turned x20.form x20.opts x20.up (v18.2.2.2.1.length : Int))),v18.2.2.2.2.1,v18.2.2.2.2.2)
    else none
  else
   q1t (plain,(r_.length : Int),0,b,b_2,b_3,r_,r_2,r_3,x,1,([] : Bytes),x.n,false,false,x.turned,x.form.rx.kind,x.form.rx.char,x.form.rx.not,x.form.rx.rows,x.form.rx.min,x.form.rx.max,x.form.rx.lazy,x.form.rx.kids,x.form.fmts,x.form.fold,x.form.all,up,0,([] : List Bytes)) >>= fun v42 =>
   um (T.qc.mk 1 ([] : Bytes) x.n false false x.turned x.form (⟨v42.isEmpty,v42⟩ : (Sl Bytes)) up 0) b b_2 b_3 r_ r_2 r_3 >>= fun v44 =>
   some (b,b_2,b_3,v44,r_2,r_3)
 partial_fixpoint
end
def gu : ((Sl T.qb) × Int × Int × (Sl T.qi) × Bytes × Bytes × (List T.qc) × (List Int) × (List Bytes)) → Option (((Sl T.qi) × Bytes × Bytes × (List T.qc) × (List Int) × (List Bytes)))
 | (l,up,i,w,w2,w3,r1_,r2_,r3_) =>
  if (decide (i < (l.l.length : Int))) then
   qh l.l i >>= fun x3 =>
   if (x3.kind == 0) then
    q5f x3.text w2 w3 >>= fun v6 =>
    um (T.qc.mk 0 v6 0 false false false (T.Form.mk (T.Rx.mk 0 ([] : Bytes) false (⟨true,([] : List T.Row)⟩ : (Sl T.Row)) 0 0 false (⟨true,([] : List T.Rx)⟩ : (Sl T.Rx))) (⟨true,([] : List T.Fmt)⟩ : (Sl T.Fmt)) false false) (⟨true,([] : List Bytes)⟩ : (Sl Bytes)) up 0) w w2 w3 r1_ r2_ r3_ >>= fun v8 =>
    gu (l,up,(IntKind.i64.wrap (i + 1)),w,w2,w3,v8,r2_,r3_)
   else
   if (x3.kind == 3) then
    q80 x3.text w >>= fun v11 =>
    if v11.2 then
     um (T.qc.mk 2 v11.1 0 false false x3.turned x3.form (⟨true,([] : List Bytes)⟩ : (Sl Bytes)) up 0) w w2 w3 r1_ r2_ r3_ >>= fun v14 =>
     gu (l,up,(IntKind.i64.wrap (i + 1)),w,w2,w3,v14,r2_,r3_)
    else
    if x3.has then
     q0w (x3.kids,up,w,w2,w3,r1_,r2_,r3_) >>= fun v17 =>
     gu (l,up,(IntKind.i64.wrap (i + 1)),v17.1,v17.2.1,v17.2.2.1,v17.2.2.2.1,v17.2.2.2.2.1,v17.2.2.2.2.2)
    else
     q9e x3.text >>= fun v19 =>
     if (v19 || x3.turned) then
      um (T.qc.mk 2 ([] : Bytes) 0 false false x3.turned x3.form (⟨true,([] : List Bytes)⟩ : (Sl Bytes)) up 0) w w2 w3 r1_ r2_ r3_ >>= fun v22 =>
      gu (l,up,(IntKind.i64.wrap (i + 1)),w,w2,w3,v22,r2_,r3_)
     else
      q88 x3.text w w2 w3 r1_ r2_ r3_ >>= fun v27 =>
      q8b (1,([] : Bytes),v27.1,true,false,0,([] : Bytes),false,(⟨true,([] : List T.Row)⟩ : Sl T.Row),0,0,false,(⟨true,([] : List T.Rx)⟩ : Sl T.Rx),(⟨true,([] : List T.Fmt)⟩ : Sl T.Fmt),false,false,(⟨true,([] : List Bytes)⟩ : Sl Bytes),up,true,w,w2,w3,[(T.qb.mk 0 x3.text 0 false false (T.Form.mk (T.Rx.mk 0 ([] : Bytes) false (⟨true,[]⟩ : (Sl T.Row)) 0 0 false (⟨true,[]⟩ : (Sl T.Rx))) (⟨true,[]⟩ : (Sl T.Fmt)) false false) (⟨true,[]⟩ : (Sl Bytes)) (⟨true,[]⟩ : (Sl T.qb)))],r1_,r2_,v27.2) >>= fun v29 =>
      match v29 with
      | .inl y30 =>
       gu (l,up,(IntKind.i64.wrap (i + 1)),w,w2,w3,y30.1,y30.2,v27.2)
      | .inr y31 =>
       gu (l,up,(IntKind.i64.wrap (i + 1)),y31.1,y31.2.1,y31.2.2.1,y31.2.2.2.1,y31.2.2.2.2.1,y31.2.2.2.2.2)
   else
    q7v (x3,up,false,w,w2,w3,r1_,r2_,r3_) >>= fun v33 =>
    gu (l,up,(IntKind.i64.wrap (i + 1)),v33.1,v33.2.1,v33.2.2.1,v33.2.2.2.1,v33.2.2.2.2.1,v33.2.2.2.2.2)
  else
   some (w,w2,w3,r1_,r2_,r3_)
 partial_fixpoint
def qb2 (l : (Sl T.qb)) (up : Int) (b : (Sl T.qi)) (b_2 : Bytes) (b_3 : Bytes) : Option (((Sl T.qi) × Bytes × Bytes × (List T.qc) × (List Int) × (List Bytes))) :=
 gu (l,up,0,b,b_2,b_3,([] : List T.qc),([] : List Int),([] : List Bytes)) >>= fun v2 =>
 some (v2.1,v2.2.1,v2.2.2.1,v2.2.2.2.1,v2.2.2.2.2.1,v2.2.2.2.2.2)
def q5j : (Int × Int × (Sl T.qi) × Bytes × Bytes × (List T.qc) × (List Int) × (List Bytes)) → Option ((Int))
 | (most,i,w,w2,w3,r1_,r2_,r3_) =>
  if (decide (i < (r1_.length : Int))) then
   qh r1_ i >>= fun x3 =>
   q5j ((if x3.n > most then x3.n else most),(IntKind.i64.wrap (i + 1)),w,w2,w3,r1_,r2_,r3_)
  else
   some most
 partial_fixpoint
def q3l : (Int × Int × (Sl T.qi) × Bytes × Bytes × (List T.qc) × (List Int) × (List Bytes)) → Option (((List T.qc)))
 | (most,i,w,w2,w3,r1_,r2_,r3_) =>
  if (decide (i < (r1_.length : Int))) then
   qh r1_ i >>= fun x3 =>
   if (decide (x3.n < 0)) then
    q3l (most,(IntKind.i64.wrap (i + 1)),w,w2,w3,(r1_.set i.toNat (T.qc.mk x3.kind x3.text (IntKind.i64.wrap (most - x3.n)) x3.def_ x3.first x3.turned x3.form x3.opts x3.up x3.end_)),r2_,r3_)
   else
    q3l (most,(IntKind.i64.wrap (i + 1)),w,w2,w3,r1_,r2_,r3_)
  else
   some r1_
 partial_fixpoint
def q10 : (Int × Int × (Sl T.qi) × Bytes × Bytes × (List T.qc) × (List Int) × (List Bytes)) → Option (((Int) ⊕ (Unit)))
 | (n,i,w,w2,w3,r1_,r2_,r3_) =>
  if (decide (i < (r1_.length : Int))) then
   qh r1_ i >>= fun x3 =>
   if (x3.kind == 1) then
    if x3.def_ then
     if (x3.n == n) then
      some (.inl i)
     else
      q10 (n,(IntKind.i64.wrap (i + 1)),w,w2,w3,r1_,r2_,r3_)
    else
     q10 (n,(IntKind.i64.wrap (i + 1)),w,w2,w3,r1_,r2_,r3_)
   else
    q10 (n,(IntKind.i64.wrap (i + 1)),w,w2,w3,r1_,r2_,r3_)
  else
   some (.inr ())
 partial_fixpoint
def q78 (n : Int) (b : (Sl T.qi)) (b_2 : Bytes) (b_3 : Bytes) (r_ : (List T.qc)) (r_2 : (List Int)) (r_3 : (List Bytes)) : Option ((Int)) :=
 q10 (n,0,b,b_2,b_3,r_,r_2,r_3) >>= fun v2 =>
 match v2 with
 | .inl y3 =>
  some y3
 | .inr y4 =>
  some (-1)
def bn : (Int × (Sl T.qi) × Bytes × Bytes × (List T.qc) × (List Int) × (List Bytes) × (List Int)) → Option (((List T.qc) × (List Int)))
 | (i,w,w2,w3,r1_,r2_,r3_,told) =>
  if (decide (i < (r1_.length : Int))) then
   qh r1_ i >>= fun x3 =>
   if (x3.kind == 1) then
    if x3.def_ then
     if ql (told.length + 1) 8 = true then
      bn ((IntKind.i64.wrap (i + 1)),w,w2,w3,(r1_.set i.toNat (T.qc.mk x3.kind x3.text x3.n x3.def_ true x3.turned x3.form x3.opts x3.up x3.end_)),r2_,r3_,(told ++ [x3.n]))
     else none
    else
    if (!x3.turned) then
     q78 x3.n w w2 w3 r1_ r2_ r3_ >>= fun v9 =>
     if (decide (v9 < 0)) then
      q2w x3.n told >>= fun v12 =>
      if (!v12) then
       if ql (told.length + 1) 8 = true then
        bn ((IntKind.i64.wrap (i + 1)),w,w2,w3,(r1_.set i.toNat (T.qc.mk x3.kind x3.text x3.n x3.def_ true x3.turned x3.form x3.opts x3.up x3.end_)),r2_,r3_,(told ++ [x3.n]))
       else none
      else
       bn ((IntKind.i64.wrap (i + 1)),w,w2,w3,r1_,r2_,r3_,told)
     else
      bn ((IntKind.i64.wrap (i + 1)),w,w2,w3,r1_,r2_,r3_,told)
    else
     bn ((IntKind.i64.wrap (i + 1)),w,w2,w3,r1_,r2_,r3_,told)
   else
    bn ((IntKind.i64.wrap (i + 1)),w,w2,w3,r1_,r2_,r3_,told)
  else
   some (r1_,told)
 partial_fixpoint
def qa7 (b : (Sl T.qi)) (b_2 : Bytes) (b_3 : Bytes) (r_ : (List T.qc)) (r_2 : (List Int)) (r_3 : (List Bytes)) : Option (((List T.qc))) :=
 q5j (0,0,b,b_2,b_3,r_,r_2,r_3) >>= fun v2 =>
 q3l (v2,0,b,b_2,b_3,r_,r_2,r_3) >>= fun v4 =>
 bn (0,b,b_2,b_3,v4,r_2,r_3,([] : List Int)) >>= fun v6 =>
 some v6.1
def q2m : (Int × Int × (Sl T.qi) × Bytes × Bytes × (List T.qc) × (List Int) × (List Bytes) × (List Int)) → Option (((List Int)))
 | (d,i,w,w2,w3,r1_,r2_,r3_,ns) =>
  qh r1_ d >>= fun x2 =>
  if (decide (i < x2.end_)) then
   qh r1_ i >>= fun x5 =>
   if (x5.kind == 1) then
    q2w x5.n ns >>= fun v8 =>
    if (!v8) then
     if ql (ns.length + 1) 8 = true then
      q2m (d,(IntKind.i64.wrap (i + 1)),w,w2,w3,r1_,r2_,r3_,(ns ++ [x5.n]))
     else none
    else
     q2m (d,(IntKind.i64.wrap (i + 1)),w,w2,w3,r1_,r2_,r3_,ns)
   else
    q2m (d,(IntKind.i64.wrap (i + 1)),w,w2,w3,r1_,r2_,r3_,ns)
  else
   some ns
 partial_fixpoint
def qbo (d : Int) (b : (Sl T.qi)) (b_2 : Bytes) (b_3 : Bytes) (r_ : (List T.qc)) (r_2 : (List Int)) (r_3 : (List Bytes)) : Option (((List Int))) :=
 q2m (d,(IntKind.i64.wrap (d + 1)),b,b_2,b_3,r_,r_2,r_3,([] : List Int)) >>= fun v2 =>
 some v2
def q2u : (Int × Int × (Sl T.qi) × Bytes × Bytes × (List Int) × (List T.qc) × (List Int) × (List Bytes)) → Option (((List Int)))
 | (d,i,w,w2,w3,ns,r2_,r3_,r4_) =>
  qh r2_ d >>= fun x2 =>
  if (decide (i < x2.end_)) then
   qh r2_ i >>= fun x5 =>
   if (x5.kind == 1) then
    q2w x5.n ns >>= fun v8 =>
    if (!v8) then
     if ql (ns.length + 1) 8 = true then
      q2u (d,(IntKind.i64.wrap (i + 1)),w,w2,w3,(ns ++ [x5.n]),r2_,r3_,r4_)
     else none
    else
     q2u (d,(IntKind.i64.wrap (i + 1)),w,w2,w3,ns,r2_,r3_,r4_)
   else
    q2u (d,(IntKind.i64.wrap (i + 1)),w,w2,w3,ns,r2_,r3_,r4_)
  else
   some ns
 partial_fixpoint
def q9s (d : Int) (b : (Sl T.qi)) (b_2 : Bytes) (b_3 : Bytes) (r_ : (List Int)) (r_2 : (List T.qc)) (r_3 : (List Int)) (r_4 : (List Bytes)) : Option (((List Int))) :=
 q2u (d,(IntKind.i64.wrap (d + 1)),b,b_2,b_3,r_,r_2,r_3,r_4) >>= fun v2 =>
 some v2
def q4l : (Int × Int × (Sl T.qi) × Bytes × Bytes × (List T.qc) × (List Int) × (List Bytes) × (List Int)) → Option (((List Int)))
 | (i,k,w,w2,w3,r1_,r2_,r3_,in_) =>
  if (decide (k < (in_.length : Int))) then
   qh in_ k >>= fun x3 =>
   q78 x3 w w2 w3 r1_ r2_ r3_ >>= fun v5 =>
   if (decide (v5 ≥ 0)) then
    q9s v5 w w2 w3 in_ r1_ r2_ r3_ >>= fun v8 =>
    q4l (i,(IntKind.i64.wrap (k + 1)),w,w2,w3,r1_,r2_,r3_,v8)
   else
    q4l (i,(IntKind.i64.wrap (k + 1)),w,w2,w3,r1_,r2_,r3_,in_)
  else
   some in_
 partial_fixpoint
def q1f : (Int × (Sl T.qi) × Bytes × Bytes × (List T.qc) × (List Int) × (List Bytes)) → Option (((Bool) ⊕ (Unit)))
 | (i,w,w2,w3,r1_,r2_,r3_) =>
  if (decide (i < (r1_.length : Int))) then
   qh r1_ i >>= fun x3 =>
   if (x3.kind != 1) then
    q1f ((IntKind.i64.wrap (i + 1)),w,w2,w3,r1_,r2_,r3_)
   else
   if (!x3.def_) then
    q1f ((IntKind.i64.wrap (i + 1)),w,w2,w3,r1_,r2_,r3_)
   else
    qbo i w w2 w3 r1_ r2_ r3_ >>= fun v7 =>
    q4l (i,0,w,w2,w3,r1_,r2_,r3_,v7) >>= fun v9 =>
    q2w x3.n v9 >>= fun v11 =>
    if v11 then
     some (.inl true)
    else
     q1f ((IntKind.i64.wrap (i + 1)),w,w2,w3,r1_,r2_,r3_)
  else
   some (.inr ())
 partial_fixpoint
def qbl (b : (Sl T.qi)) (b_2 : Bytes) (b_3 : Bytes) (r_ : (List T.qc)) (r_2 : (List Int)) (r_3 : (List Bytes)) : Option ((Bool)) :=
 q1f (0,b,b_2,b_3,r_,r_2,r_3) >>= fun v2 =>
 match v2 with
 | .inl y3 =>
  some y3
 | .inr y4 =>
  some false
def q3g : (Int × Int × (Sl T.qi) × Bytes × Bytes × (List T.qc) × (List Int) × (List Bytes)) → Option ((Int))
 | (many,i,w,w2,w3,r1_,r2_,r3_) =>
  if (decide (i < (r1_.length : Int))) then
   qh r1_ i >>= fun x3 =>
   if (x3.kind == 1) then
    q3g ((IntKind.i64.wrap (many + 1)),(IntKind.i64.wrap (i + 1)),w,w2,w3,r1_,r2_,r3_)
   else
    q3g (many,(IntKind.i64.wrap (i + 1)),w,w2,w3,r1_,r2_,r3_)
  else
   some many
 partial_fixpoint
def q52 : (Int × Int × (List Int) × (List Bytes)) → Option (((Int) ⊕ (Unit)))
 | (n,i,r1_,r2_) =>
  if (decide (i < (r1_.length : Int))) then
   qh r1_ i >>= fun x3 =>
   if (x3 == n) then
    some (.inl i)
   else
    q52 (n,(IntKind.i64.wrap (i + 1)),r1_,r2_)
  else
   some (.inr ())
 partial_fixpoint
def qax (n : Int) (r_ : (List Int)) (r_2 : (List Bytes)) : Option ((Int)) :=
 q52 (n,0,r_,r_2) >>= fun v2 =>
 match v2 with
 | .inl y3 =>
  some y3
 | .inr y4 =>
  some (-1)
def q0i : (Bytes × Int × (List Int)) → Option (((List Int)))
 | (s,i,l) =>
  if (decide (i ≤ (s.length : Int))) then
   if (i == (s.length : Int)) then
    if ql (l.length + 1) 8 = true then
     q0i (s,(IntKind.i64.wrap (i + 1)),(l ++ [i]))
    else none
   else
    qh s i >>= fun b5 =>
    q38 b5 >>= fun v7 =>
    if v7 then
     if ql (l.length + 1) 8 = true then
      q0i (s,(IntKind.i64.wrap (i + 1)),(l ++ [i]))
     else none
    else
     q0i (s,(IntKind.i64.wrap (i + 1)),l)
  else
   some l
 partial_fixpoint
def qa3 (s : Bytes) : Option (((Sl Int))) :=
 q0i (s,1,[0]) >>= fun v2 =>
 some (⟨false,v2⟩ : Sl Int)
def q8n (fold : Bool) (s : Bytes) (fuel : Int) : Option ((T.qo)) :=
 q31 s >>= fun v2 =>
 qa3 s >>= fun v4 =>
 some (T.qo.mk v2 v4 fold (if 20000 < (if 0 > fuel then 0 else fuel) then 20000 else (if 0 > fuel then 0 else fuel)) false)
mutual
def q0o (x : T.Rx) : Option ((Int)) :=
  if (x.kind == 5) then
   q3a (1,0,x) >>= fun v3 =>
   some v3
  else
   q3a (0,0,x) >>= fun v5 =>
   some v5
 partial_fixpoint
def q3a : (Int × Int × T.Rx) → Option ((Int))
 | (n,i,x) =>
  if (decide (i < (x.kids.l.length : Int))) then
   qh x.kids.l i >>= fun x3 =>
   q0o x3 >>= fun v5 =>
   q3a ((IntKind.i64.wrap (n + v5)),(IntKind.i64.wrap (i + 1)),x)
  else
   some n
 partial_fixpoint
end
def q6o : (Int × Int × T.qo × T.Rx × T.qw × (List T.Span)) → Option (((List T.Span)))
 | (i,j,r_,x,t6,none_) =>
  q0o x >>= fun v2 =>
  if (decide (j < v2)) then
   if ql (none_.length + 1) 16 = true then
    q6o (i,(IntKind.i64.wrap (j + 1)),r_,x,t6,(none_ ++ [(T.Span.mk (-1) (-1))]))
   else none
  else
   some none_
 partial_fixpoint
def q6l : ((Option T.qy) × Int × Int × T.qo × (List T.Span)) → Option (((List T.Span)))
 | (k,i,j,r_,p_) =>
  k >>= fun x2 =>
  q0o x2.x >>= fun v4 =>
  if (decide (j < v4)) then
   qh p_ (IntKind.i64.wrap (x2.g + j)) >>= fun x7 =>
   q6l (k,i,(IntKind.i64.wrap (j + 1)),r_,(p_.set ((IntKind.i64.wrap (x2.g + j)).toNat) (T.Span.mk (-1) (-1))))
  else
   some p_
 partial_fixpoint
def q62 : ((Option T.qy) × Int × (Sl T.Span) × (Option T.qy) × Int × Int × T.qo) → Option (((Option T.qy)))
 | (k,i,parts,rest,g,j,r_) =>
  if (decide (j ≥ 0)) then
   k >>= fun x3 =>
   qh x3.x.kids.l j >>= fun x5 =>
   q0o x5 >>= fun v7 =>
   q62 (k,i,parts,(some (T.qy.mk 0 x5 (IntKind.i64.wrap (g - v7)) 0 0 rest)),(IntKind.i64.wrap (g - v7)),(IntKind.i64.wrap (j - 1)),r_)
  else
   some rest
 partial_fixpoint
def q6p (c : Bytes) : Option ((Bool)) :=
 if ((c.length : Int) == 1) then
  qh c 0 >>= fun b3 =>
  q5r b3 >>= fun v5 =>
  if v5 then
   some true
  else
   q1s b3 >>= fun v8 =>
   if v8 then
    some true
   else
    some ((b3.toNat : Int) == 95)
 else
  some false
def q3u : ((Sl T.Row) × Bytes × Int) → Option (((Bool) ⊕ (Unit)))
 | (rows,c,i) =>
  if (decide (i < (rows.l.length : Int))) then
   qh rows.l i >>= fun x3 =>
   if (j6 x3.frm c || x3.frm == c) then
    if (j6 c x3.to || c == x3.to) then
     some (.inl true)
    else
     q3u (rows,c,(IntKind.i64.wrap (i + 1)))
   else
    q3u (rows,c,(IntKind.i64.wrap (i + 1)))
  else
   some (.inr ())
 partial_fixpoint
def q7n (rows : (Sl T.Row)) (c : Bytes) : Option ((Bool)) :=
 q3u (rows,c,0) >>= fun v2 =>
 match v2 with
 | .inl y3 =>
  some y3
 | .inr y4 =>
  some false
def q3r : (Int × (List UInt8)) → Option (((List UInt8)))
 | (i,b) =>
  if (decide (i < (b.length : Int))) then
   qh b i >>= fun x3 =>
   if (decide ((x3.toNat : Int) ≥ 97)) then
    if (decide ((x3.toNat : Int) ≤ 122)) then
     q3r ((IntKind.i64.wrap (i + 1)),(b.set i.toNat (u8 (IntKind.u8.wrap ((x3.toNat : Int) - 32)))))
    else
     q3r ((IntKind.i64.wrap (i + 1)),b)
   else
    q3r ((IntKind.i64.wrap (i + 1)),b)
  else
   some b
 partial_fixpoint
def q9v (s : Bytes) : Option ((Bytes)) :=
 q3r (0,s) >>= fun v2 =>
 some v2
def q9r (rows : (Sl T.Row)) (not : Bool) (fold : Bool) (c : Bytes) : Option ((Bool)) :=
 q7n rows c >>= fun v2 =>
 if fold then
  q1x c >>= fun v5 =>
  q7n rows v5 >>= fun v7 =>
  if v7 then
   some (!(true == not))
  else
   q9v c >>= fun v10 =>
   q7n rows v10 >>= fun v12 =>
   if v12 then
    some (!(true == not))
   else
    some (!(v2 == not))
 else
  some (!(v2 == not))
def qcj (x : T.Rx) (i : Int) (b : T.qo) : Option ((Int × Bool)) :=
 if (x.kind == 8) then
  some (0,(i == 0))
 else
 if (x.kind == 9) then
  some (0,(i == (b.cs.l.length : Int)))
 else
 if ((x.kind == 10) || (x.kind == 11)) then
  if (decide (i > 0)) then
   qh b.cs.l (IntKind.i64.wrap (i - 1)) >>= fun x6 =>
   q6p x6 >>= fun v8 =>
   if (decide (i < (b.cs.l.length : Int))) then
    qh b.cs.l i >>= fun x11 =>
    q6p x11 >>= fun v13 =>
    some (0,((!(v8 == v13)) == (x.kind == 10)))
   else
    some (0,((!(v8 == false)) == (x.kind == 10)))
  else
  if (decide (i < (b.cs.l.length : Int))) then
   qh b.cs.l i >>= fun x16 =>
   q6p x16 >>= fun v18 =>
   some (0,((!(false == v18)) == (x.kind == 10)))
  else
   some (0,((!(false == false)) == (x.kind == 10)))
 else
 if (decide (i ≥ (b.cs.l.length : Int))) then
  some (0,false)
 else
  qh b.cs.l i >>= fun x37 =>
  if (x.kind == 3) then
   some (1,(!(x37 == ([10] : Bytes))))
  else
  if (x.kind == 4) then
   q9r x.rows x.not b.fold x37 >>= fun v41 =>
   some (1,v41)
  else
  if (x37 == x.char) then
   some (1,true)
  else
  if b.fold then
   q1x x37 >>= fun v45 =>
   q1x x.char >>= fun v47 =>
   some (1,(v45 == v47))
  else
   some (1,false)
mutual
def zz : ((Option T.qy) × Int × (Sl T.Span) × T.qo) → Option ((Int × (Sl T.Span) × Bool × T.qo))
 | (k,i,parts,b) =>
  if k.isNone then
   some (i,parts,true,b)
  else
   k >>= fun x3 =>
   if (x3.kind == 1) then
    if ql (parts.l.length) 16 = true then
     qh b.offs.l x3.frm >>= fun x7 =>
     qh b.offs.l i >>= fun x9 =>
     qh parts.l x3.g >>= fun x11 =>
     zz (x3.rest,i,(⟨false,(parts.l.set x3.g.toNat (T.Span.mk x7 x9))⟩ : Sl T.Span),b) >>= fun v13 =>
     some (v13.1,v13.2.1,v13.2.2.1,v13.2.2.2)
    else none
   else
   if (x3.kind == 2) then
    if (decide (x3.many > x3.x.min)) then
     if (i == x3.frm) then
      some (0,(⟨true,([] : List T.Span)⟩ : Sl T.Span),false,b)
     else
      q5s (k,i,parts,b) >>= fun v18 =>
      some (v18.1,v18.2.1,v18.2.2.1,v18.2.2.2)
    else
     q5s (k,i,parts,b) >>= fun v20 =>
     some (v20.1,v20.2.1,v20.2.2.1,v20.2.2.2)
   else
   if (x3.x.kind == 0) then
    q0o x3.x >>= fun v23 =>
    q62 (k,i,parts,x3.rest,(IntKind.i64.wrap (x3.g + v23)),(IntKind.i64.wrap ((x3.x.kids.l.length : Int) - 1)),b) >>= fun v25 =>
    zz (v25,i,parts,b) >>= fun v27 =>
    some (v27.1,v27.2.1,v27.2.2.1,v27.2.2.2)
   else
   if (x3.x.kind == 1) then
    q4j (k,i,parts,x3.g,0,b) >>= fun v30 =>
    match v30 with
    | .inl y31 =>
     some (y31.1,y31.2.1,y31.2.2.1,y31.2.2.2)
    | .inr y32 =>
     some (0,(⟨true,([] : List T.Span)⟩ : Sl T.Span),false,y32)
   else
   if (x3.x.kind == 7) then
    q5s ((some (T.qy.mk 0 x3.x x3.g 0 0 x3.rest)),i,parts,b) >>= fun v35 =>
    some (v35.1,v35.2.1,v35.2.2.1,v35.2.2.2)
   else
    qbk (k,i,parts,b) >>= fun v37 =>
    some (v37.1,v37.2.1,v37.2.2.1,v37.2.2.2)
 partial_fixpoint
def q5s : ((Option T.qy) × Int × (Sl T.Span) × T.qo) → Option ((Int × (Sl T.Span) × Bool × T.qo))
 | (k,i,parts,b) =>
  k >>= fun x2 =>
  if (x2.x.max == (-1)) then
   if (decide (x2.many < x2.x.min)) then
    q0b (k,i,parts,b) >>= fun v6 =>
    some (v6.1,v6.2.1,v6.2.2.1,v6.2.2.2)
   else
   if x2.x.lazy then
    zz (x2.rest,i,parts,b) >>= fun v9 =>
    if (v9.2.2.1 || v9.2.2.2.out) then
     some (v9.1,v9.2.1,v9.2.2.1,v9.2.2.2)
    else
     q0b (k,i,parts,v9.2.2.2) >>= fun v13 =>
     some (v13.1,v13.2.1,v13.2.2.1,v13.2.2.2)
   else
    q0b (k,i,parts,b) >>= fun v15 =>
    if (v15.2.2.1 || v15.2.2.2.out) then
     some (v15.1,v15.2.1,v15.2.2.1,v15.2.2.2)
    else
     zz (x2.rest,i,parts,v15.2.2.2) >>= fun v19 =>
     some (v19.1,v19.2.1,v19.2.2.1,v19.2.2.2)
  else
  if (decide (x2.many < x2.x.min)) then
   q0b (k,i,parts,b) >>= fun v22 =>
   some (v22.1,v22.2.1,v22.2.2.1,v22.2.2.2)
  else
  if x2.x.lazy then
   zz (x2.rest,i,parts,b) >>= fun v25 =>
   if (v25.2.2.1 || (v25.2.2.2.out || (!(decide (x2.many < x2.x.max))))) then
    some (v25.1,v25.2.1,v25.2.2.1,v25.2.2.2)
   else
    q0b (k,i,parts,v25.2.2.2) >>= fun v30 =>
    some (v30.1,v30.2.1,v30.2.2.1,v30.2.2.2)
  else
  if (decide (x2.many < x2.x.max)) then
   q0b (k,i,parts,b) >>= fun v33 =>
   if (v33.2.2.1 || v33.2.2.2.out) then
    some (v33.1,v33.2.1,v33.2.2.1,v33.2.2.2)
   else
    zz (x2.rest,i,parts,v33.2.2.2) >>= fun v37 =>
    some (v37.1,v37.2.1,v37.2.2.1,v37.2.2.2)
  else
   zz (x2.rest,i,parts,b) >>= fun v39 =>
   some (v39.1,v39.2.1,v39.2.2.1,v39.2.2.2)
 partial_fixpoint
def q0b : ((Option T.qy) × Int × (Sl T.Span) × T.qo) → Option ((Int × (Sl T.Span) × Bool × T.qo))
 | (k,i,parts,b) =>
  if ql (parts.l.length) 16 = true then
   q6l (k,i,0,b,parts.l) >>= fun v3 =>
   k >>= fun x5 =>
   qh x5.x.kids.l 0 >>= fun x7 =>
   zz ((some (T.qy.mk 0 x7 x5.g 0 0 (some (T.qy.mk 2 x5.x x5.g (IntKind.i64.wrap (x5.many + 1)) i x5.rest)))),i,(⟨false,v3⟩ : Sl T.Span),b) >>= fun v9 =>
   some (v9.1,v9.2.1,v9.2.2.1,v9.2.2.2)
  else none
 partial_fixpoint
def q4j : ((Option T.qy) × Int × (Sl T.Span) × Int × Int × T.qo) → Option (((Int × (Sl T.Span) × Bool × T.qo) ⊕ (T.qo)))
 | (k,i,parts,g,j,r_) =>
  k >>= fun x2 =>
  if (decide (j < (x2.x.kids.l.length : Int))) then
   qh x2.x.kids.l j >>= fun x5 =>
   zz ((some (T.qy.mk 0 x5 g 0 0 x2.rest)),i,parts,r_) >>= fun v7 =>
   if (v7.2.2.1 || v7.2.2.2.out) then
    some (.inl (v7.1,v7.2.1,v7.2.2.1,v7.2.2.2))
   else
    q0o x5 >>= fun v11 =>
    q4j (k,i,parts,(IntKind.i64.wrap (g + v11)),(IntKind.i64.wrap (j + 1)),v7.2.2.2)
  else
   some (.inr r_)
 partial_fixpoint
def qbk : ((Option T.qy) × Int × (Sl T.Span) × T.qo) → Option ((Int × (Sl T.Span) × Bool × T.qo))
 | (k,i,parts,b) =>
  if (b.fuel == 0) then
   some (0,(⟨true,([] : List T.Span)⟩ : Sl T.Span),false,(T.qo.mk b.cs b.offs b.fold b.fuel true))
  else
   k >>= fun x3 =>
   if (x3.x.kind == 5) then
    qh x3.x.kids.l 0 >>= fun x6 =>
    zz ((some (T.qy.mk 0 x6 (IntKind.i64.wrap (x3.g + 1)) 0 0 (some (T.qy.mk 1 (T.Rx.mk 0 ([] : Bytes) false (⟨true,([] : List T.Row)⟩ : (Sl T.Row)) 0 0 false (⟨true,([] : List T.Rx)⟩ : (Sl T.Rx))) x3.g 0 i x3.rest)))),i,parts,(T.qo.mk b.cs b.offs b.fold (IntKind.i64.wrap (b.fuel - 1)) b.out)) >>= fun v8 =>
    some (v8.1,v8.2.1,v8.2.2.1,v8.2.2.2)
   else
   if (x3.x.kind == 6) then
    qh x3.x.kids.l 0 >>= fun x11 =>
    zz ((some (T.qy.mk 0 x11 x3.g 0 0 x3.rest)),i,parts,(T.qo.mk b.cs b.offs b.fold (IntKind.i64.wrap (b.fuel - 1)) b.out)) >>= fun v13 =>
    some (v13.1,v13.2.1,v13.2.2.1,v13.2.2.2)
   else
    qcj x3.x i (T.qo.mk b.cs b.offs b.fold (IntKind.i64.wrap (b.fuel - 1)) b.out) >>= fun v15 =>
    if (!v15.2) then
     some (0,(⟨true,([] : List T.Span)⟩ : Sl T.Span),false,(T.qo.mk b.cs b.offs b.fold (IntKind.i64.wrap (b.fuel - 1)) b.out))
    else
     zz (x3.rest,(IntKind.i64.wrap (i + v15.1)),parts,(T.qo.mk b.cs b.offs b.fold (IntKind.i64.wrap (b.fuel - 1)) b.out)) >>= fun v18 =>
     some (v18.1,v18.2.1,v18.2.2.1,v18.2.2.2)
 partial_fixpoint
end
def qb3 (x : T.Rx) (i : Int) (b : T.qo) : Option ((T.qw × Bool × T.qo)) :=
 q6o (i,0,b,x,(T.qw.mk (T.Span.mk 0 0) (⟨true,([] : List T.Span)⟩ : (Sl T.Span))),([] : List T.Span)) >>= fun v2 =>
 zz ((some (T.qy.mk 0 x 0 0 0 (none : (Option T.qy)))),i,(⟨v2.isEmpty,v2⟩ : Sl T.Span),b) >>= fun v4 =>
 if (!v4.2.2.1) then
  some ((T.qw.mk (T.Span.mk 0 0) (⟨true,([] : List T.Span)⟩ : (Sl T.Span))),false,v4.2.2.2)
 else
  qh v4.2.2.2.offs.l i >>= fun x7 =>
  qh v4.2.2.2.offs.l v4.1 >>= fun x9 =>
  some ((T.qw.mk (T.Span.mk x7 x9) v4.2.1),true,v4.2.2.2)
def q6j : (Int × T.qo × T.Rx × T.qw) → Option (((Bool × T.qo × T.qw) ⊕ (T.qo)))
 | (i,r_,x,t6) =>
  if (decide (i < (r_.offs.l.length : Int))) then
   qb3 x i r_ >>= fun v3 =>
   if (v3.2.1 || v3.2.2.out) then
    some (.inl (v3.2.1,v3.2.2,v3.1))
   else
    q6j ((IntKind.i64.wrap (i + 1)),v3.2.2,x,t6)
  else
   some (.inr r_)
 partial_fixpoint
def q87 (x : T.Rx) (i : Int) (b : T.qo) : Option ((T.qw × Bool × T.qo)) :=
 q6j (i,b,x,(T.qw.mk (T.Span.mk 0 0) (⟨true,([] : List T.Span)⟩ : (Sl T.Span)))) >>= fun v2 =>
 match v2 with
 | .inl y3 =>
  some (y3.2.2,y3.1,y3.2.1)
 | .inr y4 =>
  some ((T.qw.mk (T.Span.mk 0 0) (⟨true,([] : List T.Span)⟩ : (Sl T.Span))),false,y4)
def q5m : (Int × Int × T.qo) → Option (((Int) ⊕ (Unit)))
 | (at_,i,r_) =>
  if (decide (i < (r_.offs.l.length : Int))) then
   qh r_.offs.l i >>= fun x3 =>
   if (x3 == at_) then
    some (.inl i)
   else
    q5m (at_,(IntKind.i64.wrap (i + 1)),r_)
  else
   some (.inr ())
 partial_fixpoint
def q8d (at_ : Int) (b : T.qo) : Option ((Int)) :=
 q5m (at_,0,b) >>= fun v2 =>
 match v2 with
 | .inl y3 =>
  some y3
 | .inr y4 =>
  some (-1)
def q5c : (Int × T.Rx × T.qo × (List T.qw)) → Option ((((Sl T.qw) × Int × Int × T.qo × (List T.qw)) ⊕ (T.qo × (List T.qw))))
 | (i,x,r_,out) =>
  if (decide (i < (r_.offs.l.length : Int))) then
   q87 x i r_ >>= fun v3 =>
   if v3.2.2.out then
    some (.inl ((⟨true,([] : List T.qw)⟩ : Sl T.qw),0,9,v3.2.2,out))
   else
   if (!v3.2.1) then
    some (.inr (v3.2.2,out))
   else
    if ql (out.length + 1) 40 = true then
     q8d v3.1.span.to v3.2.2 >>= fun v8 =>
     if (v3.1.span.frm == v3.1.span.to) then
      q5c ((IntKind.i64.wrap (v8 + 1)),x,v3.2.2,(out ++ [v3.1]))
     else
      q5c (v8,x,v3.2.2,(out ++ [v3.1]))
    else none
  else
   some (.inr (r_,out))
 partial_fixpoint
def qbc (x : T.Rx) (fold : Bool) (s : Bytes) (fuel : Int) : Option (((Sl T.qw) × Int × Int)) :=
 q7m x >>= fun v2 =>
 if (!v2) then
  some ((⟨true,([] : List T.qw)⟩ : Sl T.qw),0,10)
 else
  q8n fold s fuel >>= fun v5 =>
  q5c (0,x,v5,([] : List T.qw)) >>= fun v7 =>
  match v7 with
  | .inl y8 =>
   some (y8.1,y8.2.1,y8.2.2.1)
  | .inr y9 =>
   some ((⟨y9.2.isEmpty,y9.2⟩ : Sl T.qw),y9.1.fuel,0)
def q3m : (Bytes × Int × T.Form × T.qw × (List Bytes)) → Option (((List Bytes)))
 | (s,i,f,m,parts) =>
  if (decide (i < (m.parts.l.length : Int))) then
   qh m.parts.l i >>= fun x3 =>
   if (decide (x3.frm ≥ 0)) then
    sub2 s x3.frm x3.to >>= fun r6 =>
    if ql (parts.length + 1) 16 = true then
     q3m (s,(IntKind.i64.wrap (i + 1)),f,m,(parts ++ [r6]))
    else none
   else
    if ql (parts.length + 1) 16 = true then
     q3m (s,(IntKind.i64.wrap (i + 1)),f,m,(parts ++ [([] : Bytes)]))
    else none
  else
   some parts
 partial_fixpoint
def q6d (c : UInt8) : Option ((UInt8)) :=
 if ((decide ((c.toNat : Int) ≥ 97)) && (decide ((c.toNat : Int) ≤ 122))) then
  some (u8 (IntKind.u8.wrap ((c.toNat : Int) - 32)))
 else
  some c
def q7j : (Int × (List UInt8)) → Option (((List UInt8)))
 | (i,b) =>
  if (decide (i < (b.length : Int))) then
   qh b i >>= fun x3 =>
   q6d x3 >>= fun v5 =>
   q7j ((IntKind.i64.wrap (i + 1)),(b.set i.toNat v5))
  else
   some b
 partial_fixpoint
def q7s (c : UInt8) : Option ((UInt8)) :=
 if ((decide ((c.toNat : Int) ≥ 65)) && (decide ((c.toNat : Int) ≤ 90))) then
  some (u8 (IntKind.u8.wrap ((c.toNat : Int) + 32)))
 else
  some c
def q7k : (Int × (List UInt8)) → Option (((List UInt8)))
 | (i,b) =>
  if (decide (i < (b.length : Int))) then
   qh b i >>= fun x3 =>
   q7s x3 >>= fun v5 =>
   q7k ((IntKind.i64.wrap (i + 1)),(b.set i.toNat v5))
  else
   some b
 partial_fixpoint
def qdw (c : UInt8) : Option ((Bool)) :=
 if ((decide ((c.toNat : Int) ≥ 65)) && (decide ((c.toNat : Int) ≤ 90))) then
  some true
 else
 if (decide ((c.toNat : Int) ≥ 97)) then
  some (decide ((c.toNat : Int) ≤ 122))
 else
  some false
def q7g (c : UInt8) : Option ((Bool)) :=
 qdw c >>= fun v2 =>
 if (v2 || ((decide ((c.toNat : Int) ≥ 48)) && (decide ((c.toNat : Int) ≤ 57)))) then
  some true
 else
  some (decide ((c.toNat : Int) ≥ 128))
def q0k : (Bytes × Int × (List Bytes)) → Option (((List Bytes)))
 | (s,i,l) =>
  if (decide (i < (s.length : Int))) then
   qh s i >>= fun b3 =>
   q7g b3 >>= fun v5 =>
   if (!v5) then
    q0k (s,(IntKind.i64.wrap (i + 1)),l)
   else
   if (i == 0) then
    if ql (l.length + 1) 16 = true then
     qh (l ++ [([] : Bytes)]) (IntKind.i64.wrap (((l ++ [([] : Bytes)]).length : Int) - 1)) >>= fun x10 =>
     sub2 s i (IntKind.i64.wrap (i + 1)) >>= fun r12 =>
     if x10.length + r12.length ≤ 2 ^ 62 then
      q0k (s,(IntKind.i64.wrap (i + 1)),((l ++ [([] : Bytes)]).set ((IntKind.i64.wrap (((l ++ [([] : Bytes)]).length : Int) - 1)).toNat) (x10 ++ r12)))
     else none
    else none
   else
    qh s (IntKind.i64.wrap (i - 1)) >>= fun b15 =>
    q7g b15 >>= fun v17 =>
    if (!v17) then
     if ql (l.length + 1) 16 = true then
      qh (l ++ [([] : Bytes)]) (IntKind.i64.wrap (((l ++ [([] : Bytes)]).length : Int) - 1)) >>= fun x21 =>
      sub2 s i (IntKind.i64.wrap (i + 1)) >>= fun r23 =>
      if x21.length + r23.length ≤ 2 ^ 62 then
       q0k (s,(IntKind.i64.wrap (i + 1)),((l ++ [([] : Bytes)]).set ((IntKind.i64.wrap (((l ++ [([] : Bytes)]).length : Int) - 1)).toNat) (x21 ++ r23)))
      else none
     else none
    else
     qh l (IntKind.i64.wrap ((l.length : Int) - 1)) >>= fun x26 =>
     sub2 s i (IntKind.i64.wrap (i + 1)) >>= fun r28 =>
     if x26.length + r28.length ≤ 2 ^ 62 then
      q0k (s,(IntKind.i64.wrap (i + 1)),(l.set ((IntKind.i64.wrap ((l.length : Int) - 1)).toNat) (x26 ++ r28)))
     else none
  else
   some l
 partial_fixpoint
def qbs (s : Bytes) : Option (((Sl Bytes))) :=
 q0k (s,0,([] : List Bytes)) >>= fun v2 =>
 some (⟨v2.isEmpty,v2⟩ : Sl Bytes)
def q35 : (Int × (Sl Bytes) × Bytes × Int × (List UInt8)) → Option ((Bytes))
 | (way,l,out,i,r0_) =>
  if (decide (i < (l.l.length : Int))) then
   qh l.l i >>= fun x3 =>
   if ((i == 0) && (way == 4)) then
    qh x3 0 >>= fun x7 =>
    q7s x7 >>= fun v9 =>
    if out.length + (x3.set ((0 : Int).toNat) v9).length ≤ 2 ^ 62 then
     q35 (way,l,(out ++ (x3.set ((0 : Int).toNat) v9)),(IntKind.i64.wrap (i + 1)),r0_)
    else none
   else
    qh x3 0 >>= fun x17 =>
    q6d x17 >>= fun v19 =>
    if out.length + (x3.set ((0 : Int).toNat) v19).length ≤ 2 ^ 62 then
     q35 (way,l,(out ++ (x3.set ((0 : Int).toNat) v19)),(IntKind.i64.wrap (i + 1)),r0_)
    else none
  else
   some out
 partial_fixpoint
def q9d (s : Bytes) (way : Int) : Option ((Bytes × Int)) :=
 if (way == 1) then
  q7j (0,s) >>= fun v3 =>
  some (v3,0)
 else
 if (way == 2) then
  q7k (0,s) >>= fun v6 =>
  some (v6,0)
 else
 if (way == 3) then
  if (decide ((s.length : Int) > 0)) then
   qh s 0 >>= fun x10 =>
   q6d x10 >>= fun v12 =>
   some ((s.set ((0 : Int).toNat) v12),0)
  else
   some (s,0)
 else
 if ((way == 4) || (way == 5)) then
  qbs s >>= fun v15 =>
  q35 (way,v15,([] : Bytes),0,s) >>= fun v17 =>
  some (v17,0)
 else
  some (([] : Bytes),2)
def kr : ((Sl T.Fmt) × (Sl Bytes) × Bytes × Int) → Option ((Bytes))
 | (fs,parts,s,i) =>
  if (decide (i < (fs.l.length : Int))) then
   qh fs.l i >>= fun x3 =>
   if (decide (x3.n < (parts.l.length : Int))) then
    qh parts.l x3.n >>= fun x6 =>
    if (x3.kind == 0) then
     if s.length + x3.thn.length ≤ 2 ^ 62 then
      kr (fs,parts,(s ++ x3.thn),(IntKind.i64.wrap (i + 1)))
     else none
    else
    if (x3.kind == 1) then
     if s.length + x6.length ≤ 2 ^ 62 then
      kr (fs,parts,(s ++ x6),(IntKind.i64.wrap (i + 1)))
     else none
    else
    if (x3.kind == 2) then
     q9d x6 x3.cas >>= fun v13 =>
     if s.length + v13.1.length ≤ 2 ^ 62 then
      kr (fs,parts,(s ++ v13.1),(IntKind.i64.wrap (i + 1)))
     else none
    else
    if (x3.kind == 4) then
     if (x6 == ([] : Bytes)) then
      if s.length + x3.els.length ≤ 2 ^ 62 then
       kr (fs,parts,(s ++ x3.els),(IntKind.i64.wrap (i + 1)))
      else none
     else
      if s.length + x6.length ≤ 2 ^ 62 then
       kr (fs,parts,(s ++ x6),(IntKind.i64.wrap (i + 1)))
      else none
    else
    if (!(x6 == ([] : Bytes))) then
     if s.length + x3.thn.length ≤ 2 ^ 62 then
      kr (fs,parts,(s ++ x3.thn),(IntKind.i64.wrap (i + 1)))
     else none
    else
     if s.length + x3.els.length ≤ 2 ^ 62 then
      kr (fs,parts,(s ++ x3.els),(IntKind.i64.wrap (i + 1)))
     else none
   else
   if (x3.kind == 0) then
    if s.length + x3.thn.length ≤ 2 ^ 62 then
     kr (fs,parts,(s ++ x3.thn),(IntKind.i64.wrap (i + 1)))
    else none
   else
   if (x3.kind == 1) then
    if s.length + ([] : Bytes).length ≤ 2 ^ 62 then
     kr (fs,parts,(s ++ ([] : Bytes)),(IntKind.i64.wrap (i + 1)))
    else none
   else
   if (x3.kind == 2) then
    q9d ([] : Bytes) x3.cas >>= fun v28 =>
    if s.length + v28.1.length ≤ 2 ^ 62 then
     kr (fs,parts,(s ++ v28.1),(IntKind.i64.wrap (i + 1)))
    else none
   else
   if (x3.kind == 4) then
    if (([] : Bytes) == ([] : Bytes)) then
     if s.length + x3.els.length ≤ 2 ^ 62 then
      kr (fs,parts,(s ++ x3.els),(IntKind.i64.wrap (i + 1)))
     else none
    else
     if s.length + ([] : Bytes).length ≤ 2 ^ 62 then
      kr (fs,parts,(s ++ ([] : Bytes)),(IntKind.i64.wrap (i + 1)))
     else none
   else
   if (!(([] : Bytes) == ([] : Bytes))) then
    if s.length + x3.thn.length ≤ 2 ^ 62 then
     kr (fs,parts,(s ++ x3.thn),(IntKind.i64.wrap (i + 1)))
    else none
   else
    if s.length + x3.els.length ≤ 2 ^ 62 then
     kr (fs,parts,(s ++ x3.els),(IntKind.i64.wrap (i + 1)))
    else none
  else
   some s
 partial_fixpoint
def qb1 (fs : (Sl T.Fmt)) (parts : (Sl Bytes)) : Option ((Bytes)) :=
 q8h fs >>= fun v2 =>
 if (!v2) then
  some ([] : Bytes)
 else
  kr (fs,parts,([] : Bytes),0) >>= fun v5 =>
  some v5
def q7r (f : T.Form) (s : Bytes) (m : T.qw) : Option ((Bytes)) :=
 sub2 s m.span.frm m.span.to >>= fun r2 =>
 q3m (s,0,f,m,[r2]) >>= fun v4 =>
 qb1 f.fmts (⟨false,v4⟩ : Sl Bytes) >>= fun v6 =>
 some v6
def q4c : (Bytes × (Sl T.qw) × Int × Bytes × Int × Int × T.Form) → Option (((Bytes × Int × Int × Bytes × Int) ⊕ (Bytes × Int)))
 | (s,ms,left,out,at_,i,f) =>
  if (decide (i < (ms.l.length : Int))) then
   qh ms.l i >>= fun x3 =>
   sub2 s at_ x3.span.frm >>= fun r5 =>
   if out.length + r5.length ≤ 2 ^ 62 then
    q7r f s x3 >>= fun v8 =>
    if (out ++ r5).length + v8.length ≤ 2 ^ 62 then
     if (decide ((((out ++ r5) ++ v8).length : Int) > 65536)) then
      some (.inl (([] : Bytes),0,4,((out ++ r5) ++ v8),x3.span.to))
     else
      q4c (s,ms,left,((out ++ r5) ++ v8),x3.span.to,(IntKind.i64.wrap (i + 1)),f)
    else none
   else none
  else
   some (.inr (out,at_))
 partial_fixpoint
def qct (m : T.qw) (ok : Bool) (b : T.qo) : Option ((T.qw × Int × Bool × Int)) :=
 if b.out then
  some ((T.qw.mk (T.Span.mk 0 0) (⟨true,([] : List T.Span)⟩ : (Sl T.Span))),0,false,9)
 else
  some (m,b.fuel,ok,0)
def qan (x : T.Rx) (fold : Bool) (s : Bytes) (at_ : Int) (fuel : Int) : Option ((T.qw × Int × Bool × Int)) :=
 q7m x >>= fun v2 =>
 if (!v2) then
  some ((T.qw.mk (T.Span.mk 0 0) (⟨true,([] : List T.Span)⟩ : (Sl T.Span))),0,false,10)
 else
  q8n fold s fuel >>= fun v5 =>
  q8d at_ v5 >>= fun v7 =>
  if (decide (v7 < 0)) then
   some ((T.qw.mk (T.Span.mk 0 0) (⟨true,([] : List T.Span)⟩ : (Sl T.Span))),0,false,3)
  else
   q87 x v7 v5 >>= fun v10 =>
   qct v10.1 v10.2.1 v10.2.2 >>= fun v12 =>
   some (v12.1,v12.2.1,v12.2.2.1,v12.2.2.2)
def q54 : (Bytes × Int × Bytes × Int × Int × T.Form × T.qw × (List T.qw) × (List T.qw)) → Option (((Bytes × Int × Int × Bytes × Int) ⊕ (Bytes × Int)))
 | (s,left,out,at_,i,f,b1_,r2_,ms) =>
  if (decide (i < (ms.length : Int))) then
   qh ms i >>= fun x3 =>
   sub2 s at_ x3.span.frm >>= fun r5 =>
   if out.length + r5.length ≤ 2 ^ 62 then
    q7r f s x3 >>= fun v8 =>
    if (out ++ r5).length + v8.length ≤ 2 ^ 62 then
     if (decide ((((out ++ r5) ++ v8).length : Int) > 65536)) then
      some (.inl (([] : Bytes),0,4,((out ++ r5) ++ v8),x3.span.to))
     else
      q54 (s,left,((out ++ r5) ++ v8),x3.span.to,(IntKind.i64.wrap (i + 1)),f,b1_,r2_,ms)
    else none
   else none
  else
   some (.inr (out,at_))
 partial_fixpoint
def qcc : (Bytes × (Sl T.qw) × Int × Bytes × Int × Int × T.Form × T.qw) → Option (((Bytes × Int × Int × Bytes × Int) ⊕ (Bytes × Int)))
 | (s,ms,left,out,at_,i,f,b1_) =>
  if (decide (i < (ms.l.length : Int))) then
   qh ms.l i >>= fun x3 =>
   sub2 s at_ x3.span.frm >>= fun r5 =>
   if out.length + r5.length ≤ 2 ^ 62 then
    q7r f s x3 >>= fun v8 =>
    if (out ++ r5).length + v8.length ≤ 2 ^ 62 then
     if (decide ((((out ++ r5) ++ v8).length : Int) > 65536)) then
      some (.inl (([] : Bytes),0,4,((out ++ r5) ++ v8),x3.span.to))
     else
      qcc (s,ms,left,((out ++ r5) ++ v8),x3.span.to,(IntKind.i64.wrap (i + 1)),f,b1_)
    else none
   else none
  else
   some (.inr (out,at_))
 partial_fixpoint
def q5o (f : T.Form) (s : Bytes) (fuel : Int) : Option ((Bytes × Int × Int)) :=
 q92 f >>= fun v2 =>
 if (!v2) then
  some (([] : Bytes),0,10)
 else
 if f.all then
  qbc f.rx f.fold s fuel >>= fun v6 =>
  if (v6.2.2 != 0) then
   some (([] : Bytes),0,v6.2.2)
  else
  if ((v6.1.l.length : Int) == 0) then
   some (s,v6.2.1,0)
  else
   q4c (s,v6.1,v6.2.1,([] : Bytes),0,0,f) >>= fun v10 =>
   match v10 with
   | .inl y11 =>
    some (y11.1,y11.2.1,y11.2.2.1)
   | .inr y12 =>
    if (decide ((IntKind.i64.wrap ((IntKind.i64.wrap ((y12.1.length : Int) + (s.length : Int))) - y12.2)) > 65536)) then
     some (([] : Bytes),0,4)
    else
     ku s y12.2 >>= fun r15 =>
     if y12.1.length + r15.length ≤ 2 ^ 62 then
      some ((y12.1 ++ r15),v6.2.1,0)
     else none
 else
  qan f.rx f.fold s 0 fuel >>= fun v18 =>
  if v18.2.2.1 then
   if ql (1) 40 = true then
    if (v18.2.2.2 != 0) then
     some (([] : Bytes),0,v18.2.2.2)
    else
    if (((1 : Nat) : Int) == 0) then
     some (s,v18.2.1,0)
    else
     q54 (s,v18.2.1,([] : Bytes),0,0,f,v18.1,[v18.1],[v18.1]) >>= fun v24 =>
     match v24 with
     | .inl y25 =>
      some (y25.1,y25.2.1,y25.2.2.1)
     | .inr y26 =>
      if (decide ((IntKind.i64.wrap ((IntKind.i64.wrap ((y26.1.length : Int) + (s.length : Int))) - y26.2)) > 65536)) then
       some (([] : Bytes),0,4)
      else
       ku s y26.2 >>= fun r29 =>
       if y26.1.length + r29.length ≤ 2 ^ 62 then
        some ((y26.1 ++ r29),v18.2.1,0)
       else none
   else none
  else
  if (v18.2.2.2 != 0) then
   some (([] : Bytes),0,v18.2.2.2)
  else
  if (((0 : Nat) : Int) == 0) then
   some (s,v18.2.1,0)
  else
   qcc (s,(⟨true,([] : List T.qw)⟩ : Sl T.qw),v18.2.1,([] : Bytes),0,0,f,v18.1) >>= fun v34 =>
   match v34 with
   | .inl y35 =>
    some (y35.1,y35.2.1,y35.2.2.1)
   | .inr y36 =>
    if (decide ((IntKind.i64.wrap ((IntKind.i64.wrap ((y36.1.length : Int) + (s.length : Int))) - y36.2)) > 65536)) then
     some (([] : Bytes),0,4)
    else
     ku s y36.2 >>= fun r39 =>
     if y36.1.length + r39.length ≤ 2 ^ 62 then
      some ((y36.1 ++ r39),v18.2.1,0)
     else none
mutual
def q04 : (Int × (Sl T.qi) × Bytes × Bytes × (List T.qc) × (List Int) × (List Bytes) × (List Int) × (List Bytes)) → Option ((Bytes × Int × (Sl T.qi) × Bytes × Bytes × (List T.qc) × (List Int) × (List Bytes) × (List Int) × (List Bytes)))
 | (i,b,b_2,b_3,r_,r_2,r_3,r_4,r_5) =>
  qh r_ i >>= fun x2 =>
  if (x2.kind == 1) then
   qax x2.n r_4 r_5 >>= fun v5 =>
   if (decide (v5 < 0)) then
    q93 (x2.n,b,b_2,b_3,r_,r_2,r_3,r_4,r_5) >>= fun v8 =>
    if (v8.2.1 != 0) then
     some (([] : Bytes),v8.2.1,v8.2.2.1,v8.2.2.2.1,v8.2.2.2.2.1,v8.2.2.2.2.2.1,v8.2.2.2.2.2.2.1,v8.2.2.2.2.2.2.2.1,v8.2.2.2.2.2.2.2.2.1,v8.2.2.2.2.2.2.2.2.2)
    else
     if ql (v8.2.2.2.2.2.2.2.2.1.length + 1) 8 = true then
      if ql (v8.2.2.2.2.2.2.2.2.2.length + 1) 16 = true then
       qh (v8.2.2.2.2.2.2.2.2.2 ++ [v8.1]) (IntKind.i64.wrap (((v8.2.2.2.2.2.2.2.2.2 ++ [v8.1]).length : Int) - 1)) >>= fun x13 =>
       if x2.turned then
        q5o x2.form x13 20000 >>= fun v16 =>
        some (v16.1,v16.2.2,v8.2.2.1,v8.2.2.2.1,v8.2.2.2.2.1,v8.2.2.2.2.2.1,v8.2.2.2.2.2.2.1,v8.2.2.2.2.2.2.2.1,(v8.2.2.2.2.2.2.2.2.1 ++ [x2.n]),(v8.2.2.2.2.2.2.2.2.2 ++ [v8.1]))
       else
        some (x13,0,v8.2.2.1,v8.2.2.2.1,v8.2.2.2.2.1,v8.2.2.2.2.2.1,v8.2.2.2.2.2.2.1,v8.2.2.2.2.2.2.2.1,(v8.2.2.2.2.2.2.2.2.1 ++ [x2.n]),(v8.2.2.2.2.2.2.2.2.2 ++ [v8.1]))
      else none
     else none
   else
    qh r_5 v5 >>= fun x18 =>
    if x2.turned then
     q5o x2.form x18 20000 >>= fun v21 =>
     some (v21.1,v21.2.2,b,b_2,b_3,r_,r_2,r_3,r_4,r_5)
    else
     some (x18,0,b,b_2,b_3,r_,r_2,r_3,r_4,r_5)
  else
  if x2.turned then
   q5o x2.form x2.text 20000 >>= fun v24 =>
   some (v24.1,v24.2.2,b,b_2,b_3,r_,r_2,r_3,r_4,r_5)
  else
   some (x2.text,0,b,b_2,b_3,r_,r_2,r_3,r_4,r_5)
 partial_fixpoint
def q93 : (Int × (Sl T.qi) × Bytes × Bytes × (List T.qc) × (List Int) × (List Bytes) × (List Int) × (List Bytes)) → Option ((Bytes × Int × (Sl T.qi) × Bytes × Bytes × (List T.qc) × (List Int) × (List Bytes) × (List Int) × (List Bytes)))
 | (n,b,b_2,b_3,r_,r_2,r_3,r_4,r_5) =>
  q78 n b b_2 b_3 r_ r_2 r_3 >>= fun v2 =>
  if (decide (v2 < 0)) then
   some (([] : Bytes),0,b,b_2,b_3,r_,r_2,r_3,r_4,r_5)
  else
   qh r_ v2 >>= fun x5 =>
   if (decide ((x5.opts.l.length : Int) > 0)) then
    qh x5.opts.l 0 >>= fun x8 =>
    if (decide ((x8.length : Int) > 65536)) then
     some (([] : Bytes),4,b,b_2,b_3,r_,r_2,r_3,r_4,r_5)
    else
     some (x8,0,b,b_2,b_3,r_,r_2,r_3,r_4,r_5)
   else
    qbv ((IntKind.i64.wrap (v2 + 1)),x5.end_,b,b_2,b_3,r_,r_2,r_3,r_4,r_5) >>= fun v11 =>
    some (v11.1,v11.2.1,v11.2.2.1,v11.2.2.2.1,v11.2.2.2.2.1,v11.2.2.2.2.2.1,v11.2.2.2.2.2.2.1,v11.2.2.2.2.2.2.2.1,v11.2.2.2.2.2.2.2.2.1,v11.2.2.2.2.2.2.2.2.2)
 partial_fixpoint
def qbv : (Int × Int × (Sl T.qi) × Bytes × Bytes × (List T.qc) × (List Int) × (List Bytes) × (List Int) × (List Bytes)) → Option ((Bytes × Int × (Sl T.qi) × Bytes × Bytes × (List T.qc) × (List Int) × (List Bytes) × (List Int) × (List Bytes)))
 | (frm,to,b,b_2,b_3,r_,r_2,r_3,r_4,r_5) =>
  q5v (to,([] : Bytes),frm,b,b_2,b_3,r_,r_2,r_3,r_4,r_5) >>= fun v2 =>
  match v2 with
  | .inl y3 =>
   some (y3.1,y3.2.1,y3.2.2.2.1,y3.2.2.2.2.1,y3.2.2.2.2.2.1,y3.2.2.2.2.2.2.1,y3.2.2.2.2.2.2.2.1,y3.2.2.2.2.2.2.2.2.1,y3.2.2.2.2.2.2.2.2.2.1,y3.2.2.2.2.2.2.2.2.2.2)
  | .inr y4 =>
   some (y4.1,0,y4.2.1,y4.2.2.1,y4.2.2.2.1,y4.2.2.2.2.1,y4.2.2.2.2.2.1,y4.2.2.2.2.2.2.1,y4.2.2.2.2.2.2.2.1,y4.2.2.2.2.2.2.2.2)
 partial_fixpoint
def q5v : (Int × Bytes × Int × (Sl T.qi) × Bytes × Bytes × (List T.qc) × (List Int) × (List Bytes) × (List Int) × (List Bytes)) → Option (((Bytes × Int × Bytes × (Sl T.qi) × Bytes × Bytes × (List T.qc) × (List Int) × (List Bytes) × (List Int) × (List Bytes)) ⊕ (Bytes × (Sl T.qi) × Bytes × Bytes × (List T.qc) × (List Int) × (List Bytes) × (List Int) × (List Bytes))))
 | (to,s,i,w,w2,w3,r2_,r3_,r4_,r5_,r6_) =>
  if (decide (i < to)) then
   q04 (i,w,w2,w3,r2_,r3_,r4_,r5_,r6_) >>= fun v3 =>
   if (v3.2.1 != 0) then
    some (.inl (([] : Bytes),v3.2.1,s,v3.2.2.1,v3.2.2.2.1,v3.2.2.2.2.1,v3.2.2.2.2.2.1,v3.2.2.2.2.2.2.1,v3.2.2.2.2.2.2.2.1,v3.2.2.2.2.2.2.2.2.1,v3.2.2.2.2.2.2.2.2.2))
   else
    if s.length + v3.1.length ≤ 2 ^ 62 then
     if (decide (((s ++ v3.1).length : Int) > 65536)) then
      some (.inl (([] : Bytes),4,(s ++ v3.1),v3.2.2.1,v3.2.2.2.1,v3.2.2.2.2.1,v3.2.2.2.2.2.1,v3.2.2.2.2.2.2.1,v3.2.2.2.2.2.2.2.1,v3.2.2.2.2.2.2.2.2.1,v3.2.2.2.2.2.2.2.2.2))
     else
      qh v3.2.2.2.2.2.1 i >>= fun x8 =>
      q5v (to,(s ++ v3.1),x8.end_,v3.2.2.1,v3.2.2.2.1,v3.2.2.2.2.1,v3.2.2.2.2.2.1,v3.2.2.2.2.2.2.1,v3.2.2.2.2.2.2.2.1,v3.2.2.2.2.2.2.2.2.1,v3.2.2.2.2.2.2.2.2.2)
    else none
  else
   some (.inr (s,w,w2,w3,r2_,r3_,r4_,r5_,r6_))
 partial_fixpoint
end
def q4t : (Int × Bytes × Int × (Sl T.qi) × Bytes × Bytes × (List T.qc) × (List Int) × (List Bytes) × (List Int) × (List Bytes)) → Option (((Bytes × Int × Bytes × (Sl T.qi) × Bytes × Bytes × (List T.qc) × (List Int) × (List Bytes) × (List Int) × (List Bytes)) ⊕ (Bytes × (Sl T.qi) × Bytes × Bytes × (List T.qc) × (List Int) × (List Bytes) × (List Int) × (List Bytes))))
 | (to,s,i,w,w2,w3,r2_,r3_,r4_,r5_,r6_) =>
  if (decide (i < to)) then
   q04 (i,w,w2,w3,r2_,r3_,r4_,r5_,r6_) >>= fun v3 =>
   if (v3.2.1 != 0) then
    some (.inl (([] : Bytes),v3.2.1,s,v3.2.2.1,v3.2.2.2.1,v3.2.2.2.2.1,v3.2.2.2.2.2.1,v3.2.2.2.2.2.2.1,v3.2.2.2.2.2.2.2.1,v3.2.2.2.2.2.2.2.2.1,v3.2.2.2.2.2.2.2.2.2))
   else
    if s.length + v3.1.length ≤ 2 ^ 62 then
     if (decide (((s ++ v3.1).length : Int) > 65536)) then
      some (.inl (([] : Bytes),4,(s ++ v3.1),v3.2.2.1,v3.2.2.2.1,v3.2.2.2.2.1,v3.2.2.2.2.2.1,v3.2.2.2.2.2.2.1,v3.2.2.2.2.2.2.2.1,v3.2.2.2.2.2.2.2.2.1,v3.2.2.2.2.2.2.2.2.2))
     else
      qh v3.2.2.2.2.2.1 i >>= fun x8 =>
      q4t (to,(s ++ v3.1),x8.end_,v3.2.2.1,v3.2.2.2.1,v3.2.2.2.2.1,v3.2.2.2.2.2.1,v3.2.2.2.2.2.2.1,v3.2.2.2.2.2.2.2.1,v3.2.2.2.2.2.2.2.2.1,v3.2.2.2.2.2.2.2.2.2)
    else none
  else
   some (.inr (s,w,w2,w3,r2_,r3_,r4_,r5_,r6_))
 partial_fixpoint
def qas (frm : Int) (to : Int) (b : (Sl T.qi)) (b_2 : Bytes) (b_3 : Bytes) (r_ : (List T.qc)) (r_2 : (List Int)) (r_3 : (List Bytes)) : Option ((Bytes × Int × (Sl T.qi) × Bytes × Bytes × (List T.qc) × (List Int) × (List Bytes) × (List Int) × (List Bytes))) :=
 q4t (to,([] : Bytes),frm,b,b_2,b_3,r_,r_2,r_3,([] : List Int),([] : List Bytes)) >>= fun v2 =>
 match v2 with
 | .inl y3 =>
  some (y3.1,y3.2.1,y3.2.2.2.1,y3.2.2.2.2.1,y3.2.2.2.2.2.1,y3.2.2.2.2.2.2.1,y3.2.2.2.2.2.2.2.1,y3.2.2.2.2.2.2.2.2.1,y3.2.2.2.2.2.2.2.2.2.1,y3.2.2.2.2.2.2.2.2.2.2)
 | .inr y4 =>
  some (y4.1,0,y4.2.1,y4.2.2.1,y4.2.2.2.1,y4.2.2.2.2.1,y4.2.2.2.2.2.1,y4.2.2.2.2.2.2.1,y4.2.2.2.2.2.2.2.1,y4.2.2.2.2.2.2.2.2)
mutual
def pz : (Int × Int × Int × (Sl T.qi) × Bytes × Bytes × (List T.Stop) × (List Int) × (List T.qc) × (List Int) × (List Bytes) × (List Int) × (List Bytes)) → Option ((Int × (Sl T.qi) × Bytes × Bytes × (List T.Stop) × (List Int) × (List T.qc) × (List Int) × (List Bytes) × (List Int) × (List Bytes)))
 | (frm,to,at_,b,b_2,b_3,r_,r_2,r_3,r_4,r_5,r_6,r_7) =>
  gz (to,at_,frm,b,b_2,b_3,r_,r_2,r_3,r_4,r_5,r_6,r_7) >>= fun v2 =>
  some (v2.1,v2.2.1,v2.2.2.1,v2.2.2.2.1,v2.2.2.2.2.1,v2.2.2.2.2.2.1,v2.2.2.2.2.2.2.1,v2.2.2.2.2.2.2.2.1,v2.2.2.2.2.2.2.2.2.1,v2.2.2.2.2.2.2.2.2.2.1,v2.2.2.2.2.2.2.2.2.2.2)
 partial_fixpoint
def gz : (Int × Int × Int × (Sl T.qi) × Bytes × Bytes × (List T.Stop) × (List Int) × (List T.qc) × (List Int) × (List Bytes) × (List Int) × (List Bytes)) → Option ((Int × (Sl T.qi) × Bytes × Bytes × (List T.Stop) × (List Int) × (List T.qc) × (List Int) × (List Bytes) × (List Int) × (List Bytes)))
 | (to,at_,i,w,w2,w3,out,place,r4_,r5_,r6_,r7_,r8_) =>
  if (decide (i < to)) then
   qh r4_ i >>= fun x3 =>
   q04 (i,w,w2,w3,r4_,r5_,r6_,r7_,r8_) >>= fun v5 =>
   if (x3.kind == 1) then
    if (decide (x3.up ≥ 0)) then
     qh place x3.up >>= fun x9 =>
     qh place i >>= fun x11 =>
     if ql (out.length + 1) 200 = true then
      if x3.def_ then
       pz ((IntKind.i64.wrap (i + 1)),x3.end_,at_,v5.2.2.1,v5.2.2.2.1,v5.2.2.2.2.1,(out ++ [(T.Stop.mk (T.Span.mk at_ (IntKind.i64.wrap (at_ + (v5.1.length : Int)))) x3.n x9 x3.first x3.turned x3.form x3.opts)]),(place.set i.toNat (out.length : Int)),v5.2.2.2.2.2.1,v5.2.2.2.2.2.2.1,v5.2.2.2.2.2.2.2.1,v5.2.2.2.2.2.2.2.2.1,v5.2.2.2.2.2.2.2.2.2) >>= fun v15 =>
       qh v15.2.2.2.2.2.2.1 i >>= fun x17 =>
       gz (to,(IntKind.i64.wrap (at_ + (v5.1.length : Int))),x17.end_,v15.2.1,v15.2.2.1,v15.2.2.2.1,v15.2.2.2.2.1,v15.2.2.2.2.2.1,v15.2.2.2.2.2.2.1,v15.2.2.2.2.2.2.2.1,v15.2.2.2.2.2.2.2.2.1,v15.2.2.2.2.2.2.2.2.2.1,v15.2.2.2.2.2.2.2.2.2.2)
      else
       qh v5.2.2.2.2.2.1 i >>= fun x19 =>
       gz (to,(IntKind.i64.wrap (at_ + (v5.1.length : Int))),x19.end_,v5.2.2.1,v5.2.2.2.1,v5.2.2.2.2.1,(out ++ [(T.Stop.mk (T.Span.mk at_ (IntKind.i64.wrap (at_ + (v5.1.length : Int)))) x3.n x9 x3.first x3.turned x3.form x3.opts)]),(place.set i.toNat (out.length : Int)),v5.2.2.2.2.2.1,v5.2.2.2.2.2.2.1,v5.2.2.2.2.2.2.2.1,v5.2.2.2.2.2.2.2.2.1,v5.2.2.2.2.2.2.2.2.2)
     else none
    else
     qh place i >>= fun x21 =>
     if ql (out.length + 1) 200 = true then
      if x3.def_ then
       pz ((IntKind.i64.wrap (i + 1)),x3.end_,at_,v5.2.2.1,v5.2.2.2.1,v5.2.2.2.2.1,(out ++ [(T.Stop.mk (T.Span.mk at_ (IntKind.i64.wrap (at_ + (v5.1.length : Int)))) x3.n (-1) x3.first x3.turned x3.form x3.opts)]),(place.set i.toNat (out.length : Int)),v5.2.2.2.2.2.1,v5.2.2.2.2.2.2.1,v5.2.2.2.2.2.2.2.1,v5.2.2.2.2.2.2.2.2.1,v5.2.2.2.2.2.2.2.2.2) >>= fun v25 =>
       qh v25.2.2.2.2.2.2.1 i >>= fun x27 =>
       gz (to,(IntKind.i64.wrap (at_ + (v5.1.length : Int))),x27.end_,v25.2.1,v25.2.2.1,v25.2.2.2.1,v25.2.2.2.2.1,v25.2.2.2.2.2.1,v25.2.2.2.2.2.2.1,v25.2.2.2.2.2.2.2.1,v25.2.2.2.2.2.2.2.2.1,v25.2.2.2.2.2.2.2.2.2.1,v25.2.2.2.2.2.2.2.2.2.2)
      else
       qh v5.2.2.2.2.2.1 i >>= fun x29 =>
       gz (to,(IntKind.i64.wrap (at_ + (v5.1.length : Int))),x29.end_,v5.2.2.1,v5.2.2.2.1,v5.2.2.2.2.1,(out ++ [(T.Stop.mk (T.Span.mk at_ (IntKind.i64.wrap (at_ + (v5.1.length : Int)))) x3.n (-1) x3.first x3.turned x3.form x3.opts)]),(place.set i.toNat (out.length : Int)),v5.2.2.2.2.2.1,v5.2.2.2.2.2.2.1,v5.2.2.2.2.2.2.2.1,v5.2.2.2.2.2.2.2.2.1,v5.2.2.2.2.2.2.2.2.2)
     else none
   else
    qh v5.2.2.2.2.2.1 i >>= fun x31 =>
    gz (to,(IntKind.i64.wrap (at_ + (v5.1.length : Int))),x31.end_,v5.2.2.1,v5.2.2.2.1,v5.2.2.2.2.1,out,place,v5.2.2.2.2.2.1,v5.2.2.2.2.2.2.1,v5.2.2.2.2.2.2.2.1,v5.2.2.2.2.2.2.2.2.1,v5.2.2.2.2.2.2.2.2.2)
  else
   some (at_,w,w2,w3,out,place,r4_,r5_,r6_,r7_,r8_)
 partial_fixpoint
end
def nk : (Int × Int × Int × (Sl T.qi) × Bytes × Bytes × (List Int) × (List T.qc) × (List Int) × (List Bytes) × (List Int) × (List Bytes) × (List T.Stop)) → Option ((Int × (Sl T.qi) × Bytes × Bytes × (List Int) × (List T.qc) × (List Int) × (List Bytes) × (List Int) × (List Bytes) × (List T.Stop)))
 | (to,at_,i,w,w2,w3,place,r3_,r4_,r5_,r6_,r7_,out) =>
  if (decide (i < to)) then
   qh r3_ i >>= fun x3 =>
   q04 (i,w,w2,w3,r3_,r4_,r5_,r6_,r7_) >>= fun v5 =>
   if (x3.kind == 1) then
    if (decide (x3.up ≥ 0)) then
     qh place x3.up >>= fun x9 =>
     qh place i >>= fun x11 =>
     if ql (out.length + 1) 200 = true then
      if x3.def_ then
       pz ((IntKind.i64.wrap (i + 1)),x3.end_,at_,v5.2.2.1,v5.2.2.2.1,v5.2.2.2.2.1,(out ++ [(T.Stop.mk (T.Span.mk at_ (IntKind.i64.wrap (at_ + (v5.1.length : Int)))) x3.n x9 x3.first x3.turned x3.form x3.opts)]),(place.set i.toNat (out.length : Int)),v5.2.2.2.2.2.1,v5.2.2.2.2.2.2.1,v5.2.2.2.2.2.2.2.1,v5.2.2.2.2.2.2.2.2.1,v5.2.2.2.2.2.2.2.2.2) >>= fun v15 =>
       qh v15.2.2.2.2.2.2.1 i >>= fun x17 =>
       nk (to,(IntKind.i64.wrap (at_ + (v5.1.length : Int))),x17.end_,v15.2.1,v15.2.2.1,v15.2.2.2.1,v15.2.2.2.2.2.1,v15.2.2.2.2.2.2.1,v15.2.2.2.2.2.2.2.1,v15.2.2.2.2.2.2.2.2.1,v15.2.2.2.2.2.2.2.2.2.1,v15.2.2.2.2.2.2.2.2.2.2,v15.2.2.2.2.1)
      else
       qh v5.2.2.2.2.2.1 i >>= fun x19 =>
       nk (to,(IntKind.i64.wrap (at_ + (v5.1.length : Int))),x19.end_,v5.2.2.1,v5.2.2.2.1,v5.2.2.2.2.1,(place.set i.toNat (out.length : Int)),v5.2.2.2.2.2.1,v5.2.2.2.2.2.2.1,v5.2.2.2.2.2.2.2.1,v5.2.2.2.2.2.2.2.2.1,v5.2.2.2.2.2.2.2.2.2,(out ++ [(T.Stop.mk (T.Span.mk at_ (IntKind.i64.wrap (at_ + (v5.1.length : Int)))) x3.n x9 x3.first x3.turned x3.form x3.opts)]))
     else none
    else
     qh place i >>= fun x21 =>
     if ql (out.length + 1) 200 = true then
      if x3.def_ then
       pz ((IntKind.i64.wrap (i + 1)),x3.end_,at_,v5.2.2.1,v5.2.2.2.1,v5.2.2.2.2.1,(out ++ [(T.Stop.mk (T.Span.mk at_ (IntKind.i64.wrap (at_ + (v5.1.length : Int)))) x3.n (-1) x3.first x3.turned x3.form x3.opts)]),(place.set i.toNat (out.length : Int)),v5.2.2.2.2.2.1,v5.2.2.2.2.2.2.1,v5.2.2.2.2.2.2.2.1,v5.2.2.2.2.2.2.2.2.1,v5.2.2.2.2.2.2.2.2.2) >>= fun v25 =>
       qh v25.2.2.2.2.2.2.1 i >>= fun x27 =>
       nk (to,(IntKind.i64.wrap (at_ + (v5.1.length : Int))),x27.end_,v25.2.1,v25.2.2.1,v25.2.2.2.1,v25.2.2.2.2.2.1,v25.2.2.2.2.2.2.1,v25.2.2.2.2.2.2.2.1,v25.2.2.2.2.2.2.2.2.1,v25.2.2.2.2.2.2.2.2.2.1,v25.2.2.2.2.2.2.2.2.2.2,v25.2.2.2.2.1)
      else
       qh v5.2.2.2.2.2.1 i >>= fun x29 =>
       nk (to,(IntKind.i64.wrap (at_ + (v5.1.length : Int))),x29.end_,v5.2.2.1,v5.2.2.2.1,v5.2.2.2.2.1,(place.set i.toNat (out.length : Int)),v5.2.2.2.2.2.1,v5.2.2.2.2.2.2.1,v5.2.2.2.2.2.2.2.1,v5.2.2.2.2.2.2.2.2.1,v5.2.2.2.2.2.2.2.2.2,(out ++ [(T.Stop.mk (T.Span.mk at_ (IntKind.i64.wrap (at_ + (v5.1.length : Int)))) x3.n (-1) x3.first x3.turned x3.form x3.opts)]))
     else none
   else
    qh v5.2.2.2.2.2.1 i >>= fun x31 =>
    nk (to,(IntKind.i64.wrap (at_ + (v5.1.length : Int))),x31.end_,v5.2.2.1,v5.2.2.2.1,v5.2.2.2.2.1,place,v5.2.2.2.2.2.1,v5.2.2.2.2.2.2.1,v5.2.2.2.2.2.2.2.1,v5.2.2.2.2.2.2.2.2.1,v5.2.2.2.2.2.2.2.2.2,out)
  else
   some (at_,w,w2,w3,place,r3_,r4_,r5_,r6_,r7_,out)
 partial_fixpoint
def qby (frm : Int) (to : Int) (at_ : Int) (b : (Sl T.qi)) (b_2 : Bytes) (b_3 : Bytes) (r_ : (List Int)) (r_2 : (List T.qc)) (r_3 : (List Int)) (r_4 : (List Bytes)) (r_5 : (List Int)) (r_6 : (List Bytes)) : Option ((Int × (Sl T.qi) × Bytes × Bytes × (List Int) × (List T.qc) × (List Int) × (List Bytes) × (List Int) × (List Bytes) × (List T.Stop))) :=
 nk (to,at_,frm,b,b_2,b_3,r_,r_2,r_3,r_4,r_5,r_6,([] : List T.Stop)) >>= fun v2 =>
 some (v2.1,v2.2.1,v2.2.2.1,v2.2.2.2.1,v2.2.2.2.2.1,v2.2.2.2.2.2.1,v2.2.2.2.2.2.2.1,v2.2.2.2.2.2.2.2.1,v2.2.2.2.2.2.2.2.2.1,v2.2.2.2.2.2.2.2.2.2.1,v2.2.2.2.2.2.2.2.2.2.2)
def q2n : (Bytes × Bool × Int × (Sl T.qi) × Bytes × Bytes × (List T.qc) × (List Int) × (List Bytes) × (List Int) × (List Bytes) × (List Int) × (List T.Stop)) → Option ((Bool))
 | (s,zero,i,b0_,b0_2,b0_3,r1_,r2_,r3_,r5_,r6_,r7_,stops) =>
  if (decide (i < (stops.length : Int))) then
   if zero then
    q2n (s,true,(IntKind.i64.wrap (i + 1)),b0_,b0_2,b0_3,r1_,r2_,r3_,r5_,r6_,r7_,stops)
   else
    qh stops i >>= fun x4 =>
    if (x4.n == 0) then
     q2n (s,(!x4.turned),(IntKind.i64.wrap (i + 1)),b0_,b0_2,b0_3,r1_,r2_,r3_,r5_,r6_,r7_,stops)
    else
     q2n (s,false,(IntKind.i64.wrap (i + 1)),b0_,b0_2,b0_3,r1_,r2_,r3_,r5_,r6_,r7_,stops)
  else
   some zero
 partial_fixpoint
def qag (l : (Sl T.qb)) (env : (Sl T.qi)) (lead : Bytes) (unit : Bytes) : Option ((Bytes × (Sl T.Stop) × Int)) :=
 qbn l >>= fun v2 =>
 if (!v2) then
  some (([] : Bytes),(⟨true,([] : List T.Stop)⟩ : Sl T.Stop),10)
 else
  qb2 l (-1) env lead unit >>= fun v5 =>
  qa7 v5.1 v5.2.1 v5.2.2.1 v5.2.2.2.1 v5.2.2.2.2.1 v5.2.2.2.2.2 >>= fun v7 =>
  qbl v5.1 v5.2.1 v5.2.2.1 v7 v5.2.2.2.2.1 v5.2.2.2.2.2 >>= fun v9 =>
  if v9 then
   some (([] : Bytes),(⟨true,([] : List T.Stop)⟩ : Sl T.Stop),11)
  else
   q3g (0,0,v5.1,v5.2.1,v5.2.2.1,v7,v5.2.2.2.2.1,v5.2.2.2.2.2) >>= fun v12 =>
   if (decide (v12 > 256)) then
    some (([] : Bytes),(⟨true,([] : List T.Stop)⟩ : Sl T.Stop),7)
   else
    qas 0 (v7.length : Int) v5.1 v5.2.1 v5.2.2.1 v7 v5.2.2.2.2.1 v5.2.2.2.2.2 >>= fun v15 =>
    if (v15.2.1 != 0) then
     some (([] : Bytes),(⟨true,([] : List T.Stop)⟩ : Sl T.Stop),v15.2.1)
    else
     if 0 ≤ (v15.2.2.2.2.2.1.length : Int) then
      if ql (v15.2.2.2.2.2.1.length : Int).toNat 8 = true then
       qby 0 (v15.2.2.2.2.2.1.length : Int) 0 v15.2.2.1 v15.2.2.2.1 v15.2.2.2.2.1 (List.replicate (v15.2.2.2.2.2.1.length : Int).toNat 0) v15.2.2.2.2.2.1 v15.2.2.2.2.2.2.1 v15.2.2.2.2.2.2.2.1 v15.2.2.2.2.2.2.2.2.1 v15.2.2.2.2.2.2.2.2.2 >>= fun v20 =>
       q2n (v15.1,false,0,v20.2.1,v20.2.2.1,v20.2.2.2.1,v20.2.2.2.2.2.1,v20.2.2.2.2.2.2.1,v20.2.2.2.2.2.2.2.1,v20.2.2.2.2.2.2.2.2.1,v20.2.2.2.2.2.2.2.2.2.1,v20.2.2.2.2.1,v20.2.2.2.2.2.2.2.2.2.2) >>= fun v22 =>
       if (!v22) then
        if ql (v20.2.2.2.2.2.2.2.2.2.2.length + 1) 200 = true then
         some (v15.1,(⟨false,(v20.2.2.2.2.2.2.2.2.2.2 ++ [(T.Stop.mk (T.Span.mk (v15.1.length : Int) (v15.1.length : Int)) 0 (-1) true false (T.Form.mk (T.Rx.mk 0 ([] : Bytes) false (⟨true,[]⟩ : (Sl T.Row)) 0 0 false (⟨true,[]⟩ : (Sl T.Rx))) (⟨true,[]⟩ : (Sl T.Fmt)) false false) (⟨true,[]⟩ : (Sl Bytes)))])⟩ : Sl T.Stop),0)
        else none
       else
        some (v15.1,(⟨v20.2.2.2.2.2.2.2.2.2.2.isEmpty,v20.2.2.2.2.2.2.2.2.2.2⟩ : Sl T.Stop),0)
      else none
     else none
def q4n : (Int × (Sl T.Stop) × Int × T.zf × Int × Int × (List T.Stop)) → Option (((List T.Stop)))
 | (at_,p_,i,t4,in_,in_2,r2_) =>
  if (decide (i < (p_.l.length : Int))) then
   qh p_.l i >>= fun x3 =>
   if ql (r2_.length + 1) 200 = true then
    q4n (at_,p_,(IntKind.i64.wrap (i + 1)),t4,in_,in_2,(r2_ ++ [(T.Stop.mk (T.Span.mk (IntKind.i64.wrap (x3.span.frm + at_)) (IntKind.i64.wrap (x3.span.to + at_))) x3.n x3.up x3.first x3.turned x3.form x3.opts)]))
   else none
  else
   some r2_
 partial_fixpoint
def q9c (s : Bytes) (at_ : Int) : Option ((T.zf × Bool)) :=
 qaw s >>= fun v2 =>
 qag v2.1 (⟨true,([] : List T.qi)⟩ : Sl T.qi) ([] : Bytes) ([] : Bytes) >>= fun v4 =>
 if ((v2.2 != 0) || (v4.2.2 != 0)) then
  some ((T.zf.mk (T.Span.mk 0 0) (⟨true,([] : List T.Stop)⟩ : (Sl T.Stop))),false)
 else
  q4n (at_,v4.2.1,0,(T.zf.mk (T.Span.mk 0 0) (⟨true,([] : List T.Stop)⟩ : (Sl T.Stop))),at_,(IntKind.i64.wrap (at_ + (v4.1.length : Int))),([] : List T.Stop)) >>= fun v8 =>
  some ((T.zf.mk (T.Span.mk at_ (IntKind.i64.wrap (at_ + (v4.1.length : Int)))) (⟨v8.isEmpty,v8⟩ : (Sl T.Stop))),true)
def q9q (s : T.Span) (n : Int) : Option ((Bool)) :=
 if ((decide (s.frm ≥ 0)) && (decide (s.frm ≤ s.to))) then
  some (decide (s.to ≤ n))
 else
  some false
def q6h (i : T.zf) (k : Int) : Option ((Int)) :=
 qh i.stops.l k >>= fun x2 =>
 if ((decide (x2.up ≥ 0)) && (decide (x2.up < k))) then
  some x2.up
 else
  some (-1)
def q14 : (Int × Int × T.zf) → Option (((Bool) ⊕ (Unit)))
 | (k,u,i) =>
  if (decide (u ≥ 0)) then
   qh i.stops.l k >>= fun x3 =>
   if (x3.up == u) then
    some (.inl true)
   else
    q6h i u >>= fun v6 =>
    q14 (k,v6,i)
  else
   some (.inr ())
 partial_fixpoint
def qc9 (i : T.zf) (k : Int) : Option ((Bool)) :=
 q14 (k,(IntKind.i64.wrap (k - 1)),i) >>= fun v2 =>
 match v2 with
 | .inl y3 =>
  some y3
 | .inr y4 =>
  qh i.stops.l k >>= fun x6 =>
  some (x6.up == (-1))
def q9h (a : T.Span) (b : T.Span) : Option ((Bool)) :=
 if (decide (a.frm ≥ b.frm)) then
  some (decide (a.to ≤ b.to))
 else
  some false
def q2i : ((Sl T.Stop) × Int × Int × T.zf × jv) → Option (((Bool × jv) ⊕ (jv)))
 | (t18,t19,t20,i,ends) =>
  if (decide (t20 < t19)) then
   qh t18.l t20 >>= fun x3 =>
   qc9 i t20 >>= fun v5 =>
   if ((!v5) || (decide (x3.span.frm > x3.span.to))) then
    some (.inl (false,ends))
   else
   if (decide (x3.up ≥ 0)) then
    qh i.stops.l x3.up >>= fun x10 =>
    q9h x3.span x10.span >>= fun v12 =>
    if ((!v12) || ((uj ends x3.up) && (decide (x3.span.frm < (bq ends x3.up))))) then
     some (.inl (false,ends))
    else
     q2i (t18,t19,(IntKind.i64.wrap (t20 + 1)),i,(ny ends x3.up x3.span.to))
   else
    q9h x3.span i.span >>= fun v17 =>
    if ((!v17) || ((uj ends x3.up) && (decide (x3.span.frm < (bq ends x3.up))))) then
     some (.inl (false,ends))
    else
     q2i (t18,t19,(IntKind.i64.wrap (t20 + 1)),i,(ny ends x3.up x3.span.to))
  else
   some (.inr ends)
 partial_fixpoint
def qb8 (i : T.zf) (n : Int) : Option ((Bool)) :=
 q9q i.span n >>= fun v2 =>
 if (!v2) then
  some false
 else
  q2i (i.stops,(i.stops.l.length : Int),0,i,(⟨[],0⟩ : jv)) >>= fun v5 =>
  match v5 with
  | .inl y6 =>
   some y6.1
  | .inr y7 =>
   some true
def q7p : (Int × Int × Int × Int × T.zf) → Option ((Int))
 | (b,a,up,last,i) =>
  if ((decide (up > a)) && (decide (up < last))) then
   qh i.stops.l up >>= fun x4 =>
   q7p (b,a,x4.up,up,i)
  else
   some up
 partial_fixpoint
def qdf (a : T.Span) (b : T.Span) : Option ((Bool)) :=
 some (decide ((if b.frm > a.frm then b.frm else a.frm) < (if b.to < a.to then b.to else a.to)))
def q4b : (Int × Int × T.zf) → Option (((Bool) ⊕ (Unit)))
 | (b,a,i) =>
  if (decide (a < b)) then
   qh i.stops.l b >>= fun x3 =>
   q7p (b,a,x3.up,b,i) >>= fun v5 =>
   qh i.stops.l a >>= fun x7 =>
   qdf x7.span x3.span >>= fun v9 =>
   if (v9 && (v5 != a)) then
    some (.inl false)
   else
    q4b (b,(IntKind.i64.wrap (a + 1)),i)
  else
   some (.inr ())
 partial_fixpoint
def q4x : (Int × T.zf) → Option (((Bool) ⊕ (Unit)))
 | (b,i) =>
  if (decide (b < (i.stops.l.length : Int))) then
   q4b (b,0,i) >>= fun v3 =>
   match v3 with
   | .inl y4 =>
    some (.inl y4)
   | .inr y5 =>
    q4x ((IntKind.i64.wrap (b + 1)),i)
  else
   some (.inr ())
 partial_fixpoint
def q42 (i : T.zf) : Option ((Bool)) :=
 q4x (0,i) >>= fun v2 =>
 match v2 with
 | .inl y3 =>
  some y3
 | .inr y4 =>
  some true
def qdi (i : T.zf) (n : Int) (s : Bytes) : Option ((Bool)) :=
 if ((decide ((i.stops.l.length : Int) > 14)) || (decide ((s.length : Int) > 100))) then
  aw8 >>= fun v3 =>
  some v3
 else
  q9c s 1 >>= fun v8 =>
  qb8 i n >>= fun v10 =>
  if v10 then
   q42 i >>= fun v13 =>
   if (!v13) then
    some false
   else
   if v8.2 then
    q42 v8.1 >>= fun v17 =>
    if (!v17) then
     some false
    else
     aw8 >>= fun v20 =>
     some v20
   else
    aw8 >>= fun v22 =>
    some v22
  else
  if v8.2 then
   q42 v8.1 >>= fun v25 =>
   if (!v25) then
    some false
   else
    aw8 >>= fun v28 =>
    some v28
  else
   aw8 >>= fun v30 =>
   some v30
end Go.Proofs.YtdhgdeelagmbpaaGreat
