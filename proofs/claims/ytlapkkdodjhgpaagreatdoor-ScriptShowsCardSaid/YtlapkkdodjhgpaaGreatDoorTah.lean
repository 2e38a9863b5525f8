/-
  The functions as plain Lean functions.
-/
import Derived.Test.YtlapkkdodjhgpaaGreatDoorTaf
set_option linter.unusedSimpArgs false
set_option linter.unusedVariables false
set_option maxRecDepth 100000
namespace Go.Proofs.YtlapkkdodjhgpaaGreatDoor
open Go Go.Gm
def q26 : (Int × Int × (List Bytes)) → Option (((Bool) ⊕ (Unit)))
 | (n,i,ss) =>
  if (decide (i < (ss.length : Int))) then
   qi ss i >>= fun x3 =>
   if (decide ((x3.length : Int) ≥ n)) then
    some (.inl true)
   else
    q26 ((IntKind.i64.wrap ((IntKind.i64.wrap (n - (x3.length : Int))) - 1)),(IntKind.i64.wrap (i + 1)),ss)
  else
   some (.inr ())
 partial_fixpoint
def q5m (n : Int) (r_ : (List Bytes)) : Option ((Bool)) :=
 q26 (n,0,r_) >>= fun v2 =>
 match v2 with
 | .inl y3 =>
  some y3
 | .inr y4 =>
  some false
def gu : (Int × (Sl T.qj) × Int) → Option (((Bool) ⊕ (Unit)))
 | (n,es,i) =>
  if (decide (i < (es.l.length : Int))) then
   qi es.l i >>= fun x3 =>
   if (decide ((x3.text.length : Int) > n)) then
    some (.inl true)
   else
    gu ((IntKind.i64.wrap (n - (x3.text.length : Int))),es,(IntKind.i64.wrap (i + 1)))
  else
   some (.inr ())
 partial_fixpoint
def q4i (many : Int) (n : Int) (es : (Sl T.qj)) : Option ((Bool)) :=
 if (decide ((es.l.length : Int) > many)) then
  some true
 else
  gu (n,es,0) >>= fun v3 =>
  match v3 with
  | .inl y4 =>
   some y4
  | .inr y5 =>
   some false
def q1v : (Int × (Sl T.Op) × Int × Int × (List Bytes)) → Option ((Int))
 | (n,os,i,k,r0_) =>
  qi os.l i >>= fun x2 =>
  if (decide (k < (x2.edits.l.length : Int))) then
   qi x2.edits.l k >>= fun x5 =>
   q1v ((IntKind.i64.wrap (n - (x5.text.length : Int))),os,i,(IntKind.i64.wrap (k + 1)),r0_)
  else
   some n
 partial_fixpoint
def q2f : (Int × (Sl T.Op) × Int) → Option (((Bool) ⊕ (Unit)))
 | (n,os,i) =>
  if (decide (i < (os.l.length : Int))) then
   qi os.l i >>= fun x3 =>
   q5m n [x3.name,x3.text] >>= fun v5 =>
   if v5 then
    some (.inl true)
   else
   if (decide ((x3.edits.l.length : Int) > 10)) then
    some (.inl true)
   else
   if (decide ((x3.sels.l.length : Int) > 10)) then
    some (.inl true)
   else
    q4i 10 n x3.edits >>= fun v10 =>
    if v10 then
     some (.inl true)
    else
     q1v ((IntKind.i64.wrap ((IntKind.i64.wrap (n - (x3.name.length : Int))) - (x3.text.length : Int))),os,i,0,[x3.name,x3.text]) >>= fun v13 =>
     if (decide (v13 < 0)) then
      some (.inl true)
     else
      q2f (v13,os,(IntKind.i64.wrap (i + 1)))
  else
   some (.inr ())
 partial_fixpoint
def q57 (many : Int) (n : Int) (os : (Sl T.Op)) : Option ((Bool)) :=
 if (decide ((os.l.length : Int) > many)) then
  some true
 else
  q2f (n,os,0) >>= fun v3 =>
  match v3 with
  | .inl y4 =>
   some y4
  | .inr y5 =>
   some false
def kg (n : Int) : Option ((Bytes)) :=
 q64 n >>= fun v2 =>
 if ([32] : Bytes).length + v2.length ≤ 2 ^ 62 then
  some (([32] : Bytes) ++ v2)
 else none
def q2j : ((Sl T.Op) × (Sl Int) × Int × Int × (List UInt8)) → Option (((List UInt8)))
 | (os,t15,t16,t17,out) =>
  if (decide (t17 < t16)) then
   qi t15.l t17 >>= fun x3 =>
   kg (IntKind.i64.wrap x3) >>= fun v5 =>
   if j4 (out.length + v5.length) 1 = true then
    q2j (os,t15,t16,(IntKind.i64.wrap (t17 + 1)),(out ++ v5))
   else none
  else
   some out
 partial_fixpoint
def ym : ((Sl Int) × Int × Int) → Option (((Bool) ⊕ (Unit)))
 | (t5,t6,t7) =>
  if (decide (t7 < t6)) then
   qi t5.l t7 >>= fun x3 =>
   if ((decide (x3 ≤ (-1000000000000000000))) || (decide (x3 ≥ 1000000000000000000))) then
    some (.inl false)
   else
    ym (t5,t6,(IntKind.i64.wrap (t7 + 1)))
  else
   some (.inr ())
 partial_fixpoint
def q0n (ns : (Sl Int)) : Option ((Bool)) :=
 ym (ns,(ns.l.length : Int),0) >>= fun v2 =>
 match v2 with
 | .inl y3 =>
  some y3
 | .inr y4 =>
  some true
def q00 (s : Bytes) : Option ((Bytes)) :=
 kg (s.length : Int) >>= fun v2 =>
 if v2.length + ([58] : Bytes).length ≤ 2 ^ 62 then
  if (v2 ++ ([58] : Bytes)).length + s.length ≤ 2 ^ 62 then
   some ((v2 ++ ([58] : Bytes)) ++ s)
  else none
 else none
def jv (o : T.Op) : Option ((Bool)) :=
 if ((o.name == ([] : Bytes)) && ((o.text == ([] : Bytes)) && ((o.n == 0) && ((!o.extend) && ((o.edits.l.length : Int) == 0))))) then
  some ((o.sels.l.length : Int) == 0)
 else
  some false
def q1e : (Bytes × Bool × (Sl T.qj) × Int × Int × T.Op × T.Op) → Option ((Bytes × Bool))
 | (out,ok_,t82,t83,t84,b0_,rest) =>
  if (decide (t84 < t83)) then
   qi t82.l t84 >>= fun x3 =>
   if ok_ then
    q0n (⟨false,[x3.span.frm,x3.span.to]⟩ : Sl Int) >>= fun v6 =>
    kg x3.span.frm >>= fun v8 =>
    kg x3.span.to >>= fun v10 =>
    if v8.length + v10.length ≤ 2 ^ 62 then
     q00 x3.text >>= fun v13 =>
     if (v8 ++ v10).length + v13.length ≤ 2 ^ 62 then
      if out.length + ((v8 ++ v10) ++ v13).length ≤ 2 ^ 62 then
       q1e ((out ++ ((v8 ++ v10) ++ v13)),v6,t82,t83,(IntKind.i64.wrap (t84 + 1)),b0_,rest)
      else none
     else none
    else none
   else
    kg x3.span.frm >>= fun v17 =>
    kg x3.span.to >>= fun v19 =>
    if v17.length + v19.length ≤ 2 ^ 62 then
     q00 x3.text >>= fun v22 =>
     if (v17 ++ v19).length + v22.length ≤ 2 ^ 62 then
      if out.length + ((v17 ++ v19) ++ v22).length ≤ 2 ^ 62 then
       q1e ((out ++ ((v17 ++ v19) ++ v22)),false,t82,t83,(IntKind.i64.wrap (t84 + 1)),b0_,rest)
      else none
     else none
    else none
  else
   some (out,ok_)
 partial_fixpoint
def q0i : (Bytes × Bool × (Sl T.Sel) × Int × Int × T.Op × T.Op) → Option ((Bytes × Bool))
 | (out,ok_,t119,t120,t121,b0_,rest) =>
  if (decide (t121 < t120)) then
   qi t119.l t121 >>= fun x3 =>
   if ok_ then
    q0n (⟨false,[x3.anchor,x3.head]⟩ : Sl Int) >>= fun v6 =>
    kg x3.anchor >>= fun v8 =>
    kg x3.head >>= fun v10 =>
    if v8.length + v10.length ≤ 2 ^ 62 then
     if out.length + (v8 ++ v10).length ≤ 2 ^ 62 then
      q0i ((out ++ (v8 ++ v10)),v6,t119,t120,(IntKind.i64.wrap (t121 + 1)),b0_,rest)
     else none
    else none
   else
    kg x3.anchor >>= fun v14 =>
    kg x3.head >>= fun v16 =>
    if v14.length + v16.length ≤ 2 ^ 62 then
     if out.length + (v14 ++ v16).length ≤ 2 ^ 62 then
      q0i ((out ++ (v14 ++ v16)),false,t119,t120,(IntKind.i64.wrap (t121 + 1)),b0_,rest)
     else none
    else none
  else
   some (out,ok_)
 partial_fixpoint
def q0s (word : Bytes) : Option ((Int)) :=
 if (word == ([110,101,120,116] : Bytes)) then
  some 8
 else
 if (word == ([112,114,101,118] : Bytes)) then
  some 9
 else
 if (word == ([108,101,97,118,101] : Bytes)) then
  some 10
 else
 if (word == ([117,110,100,111] : Bytes)) then
  some 12
 else
 if (word == ([114,101,100,111] : Bytes)) then
  some 13
 else
  some 0
def q23 : (Int × Int × Int × (List Bytes)) → Option (((Bytes) ⊕ (Unit)))
 | (kind,t6,t7,t5) =>
  if (decide (t7 < t6)) then
   qi t5 t7 >>= fun x3 =>
   q0s x3 >>= fun v5 =>
   if (v5 == kind) then
    some (.inl x3)
   else
    q23 (kind,t6,(IntKind.i64.wrap (t7 + 1)),t5)
  else
   some (.inr ())
 partial_fixpoint
def q5e (kind : Int) : Option ((Bytes)) :=
 q23 (kind,((5 : Nat) : Int),0,[([110,101,120,116] : Bytes),([112,114,101,118] : Bytes),([108,101,97,118,101] : Bytes),([117,110,100,111] : Bytes),([114,101,100,111] : Bytes)]) >>= fun v2 =>
 match v2 with
 | .inl y3 =>
  some y3
 | .inr y4 =>
  some ([] : Bytes)
def q4y (o : T.Op) : Option ((Bytes × Bool)) :=
 q0n (⟨false,[o.n]⟩ : Sl Int) >>= fun v2 =>
 if (o.kind == 1) then
  q00 o.name >>= fun v5 =>
  if ([115,101,116] : Bytes).length + v5.length ≤ 2 ^ 62 then
   q00 o.text >>= fun v8 =>
   if (([115,101,116] : Bytes) ++ v5).length + v8.length ≤ 2 ^ 62 then
    if (v2 && (!(((([115,101,116] : Bytes) ++ v5) ++ v8) == ([] : Bytes)))) then
     jv (T.Op.mk o.kind ([] : Bytes) ([] : Bytes) o.n o.extend o.edits o.sels) >>= fun v13 =>
     some (((([115,101,116] : Bytes) ++ v5) ++ v8),v13)
    else
     some (((([115,101,116] : Bytes) ++ v5) ++ v8),false)
   else none
  else none
 else
 if (o.kind == 2) then
  q00 o.text >>= fun v16 =>
  if ([116,121,112,101] : Bytes).length + v16.length ≤ 2 ^ 62 then
   if (o.kind == 7) then
    if ([105,110,115,101,114,116] : Bytes).length + v16.length ≤ 2 ^ 62 then
     if (v2 && (!((([105,110,115,101,114,116] : Bytes) ++ v16) == ([] : Bytes)))) then
      jv (T.Op.mk o.kind o.name ([] : Bytes) o.n o.extend o.edits o.sels) >>= fun v23 =>
      some ((([105,110,115,101,114,116] : Bytes) ++ v16),v23)
     else
      some ((([105,110,115,101,114,116] : Bytes) ++ v16),false)
    else none
   else
   if (v2 && (!((([116,121,112,101] : Bytes) ++ v16) == ([] : Bytes)))) then
    jv (T.Op.mk o.kind o.name ([] : Bytes) o.n o.extend o.edits o.sels) >>= fun v27 =>
    some ((([116,121,112,101] : Bytes) ++ v16),v27)
   else
    some ((([116,121,112,101] : Bytes) ++ v16),false)
  else none
 else
 if (o.kind == 7) then
  q00 o.text >>= fun v30 =>
  if ([116,121,112,101] : Bytes).length + v30.length ≤ 2 ^ 62 then
   if ([105,110,115,101,114,116] : Bytes).length + v30.length ≤ 2 ^ 62 then
    if (v2 && (!((([105,110,115,101,114,116] : Bytes) ++ v30) == ([] : Bytes)))) then
     jv (T.Op.mk o.kind o.name ([] : Bytes) o.n o.extend o.edits o.sels) >>= fun v36 =>
     some ((([105,110,115,101,114,116] : Bytes) ++ v30),v36)
    else
     some ((([105,110,115,101,114,116] : Bytes) ++ v30),false)
   else none
  else none
 else
 if (o.kind == 3) then
  kg o.n >>= fun v39 =>
  if ([101,114,97,115,101] : Bytes).length + v39.length ≤ 2 ^ 62 then
   if (o.kind == 11) then
    if ([99,104,111,111,115,101] : Bytes).length + v39.length ≤ 2 ^ 62 then
     if (v2 && (!((([99,104,111,111,115,101] : Bytes) ++ v39) == ([] : Bytes)))) then
      jv (T.Op.mk o.kind o.name o.text 0 o.extend o.edits o.sels) >>= fun v46 =>
      some ((([99,104,111,111,115,101] : Bytes) ++ v39),v46)
     else
      some ((([99,104,111,111,115,101] : Bytes) ++ v39),false)
    else none
   else
   if (v2 && (!((([101,114,97,115,101] : Bytes) ++ v39) == ([] : Bytes)))) then
    jv (T.Op.mk o.kind o.name o.text 0 o.extend o.edits o.sels) >>= fun v50 =>
    some ((([101,114,97,115,101] : Bytes) ++ v39),v50)
   else
    some ((([101,114,97,115,101] : Bytes) ++ v39),false)
  else none
 else
 if (o.kind == 11) then
  kg o.n >>= fun v53 =>
  if ([101,114,97,115,101] : Bytes).length + v53.length ≤ 2 ^ 62 then
   if ([99,104,111,111,115,101] : Bytes).length + v53.length ≤ 2 ^ 62 then
    if (v2 && (!((([99,104,111,111,115,101] : Bytes) ++ v53) == ([] : Bytes)))) then
     jv (T.Op.mk o.kind o.name o.text 0 o.extend o.edits o.sels) >>= fun v59 =>
     some ((([99,104,111,111,115,101] : Bytes) ++ v53),v59)
    else
     some ((([99,104,111,111,115,101] : Bytes) ++ v53),false)
   else none
  else none
 else
 if (o.kind == 6) then
  kg o.n >>= fun v62 =>
  if ([109,111,118,101] : Bytes).length + v62.length ≤ 2 ^ 62 then
   if (([109,111,118,101] : Bytes) ++ v62).length + ([32,48] : Bytes).length ≤ 2 ^ 62 then
    if o.extend then
     if ([109,111,118,101] : Bytes).length + v62.length ≤ 2 ^ 62 then
      if (([109,111,118,101] : Bytes) ++ v62).length + ([32,49] : Bytes).length ≤ 2 ^ 62 then
       if (v2 && (!(((([109,111,118,101] : Bytes) ++ v62) ++ ([32,49] : Bytes)) == ([] : Bytes)))) then
        jv (T.Op.mk o.kind o.name o.text 0 false o.edits o.sels) >>= fun v71 =>
        some (((([109,111,118,101] : Bytes) ++ v62) ++ ([32,49] : Bytes)),v71)
       else
        some (((([109,111,118,101] : Bytes) ++ v62) ++ ([32,49] : Bytes)),false)
      else none
     else none
    else
    if (v2 && (!(((([109,111,118,101] : Bytes) ++ v62) ++ ([32,48] : Bytes)) == ([] : Bytes)))) then
     jv (T.Op.mk o.kind o.name o.text 0 false o.edits o.sels) >>= fun v75 =>
     some (((([109,111,118,101] : Bytes) ++ v62) ++ ([32,48] : Bytes)),v75)
    else
     some (((([109,111,118,101] : Bytes) ++ v62) ++ ([32,48] : Bytes)),false)
   else none
  else none
 else
 if (o.kind == 4) then
  q1e (([101,100,105,116] : Bytes),v2,o.edits,(o.edits.l.length : Int),0,o,o) >>= fun v78 =>
  if (v78.2 && (!(v78.1 == ([] : Bytes)))) then
   jv (T.Op.mk o.kind o.name o.text o.n o.extend (⟨true,([] : List T.qj)⟩ : (Sl T.qj)) o.sels) >>= fun v82 =>
   some (v78.1,v82)
  else
   some (v78.1,false)
 else
 if (o.kind == 5) then
  q0i (([115,101,108,101,99,116] : Bytes),v2,o.sels,(o.sels.l.length : Int),0,o,o) >>= fun v85 =>
  if (v85.2 && (!(v85.1 == ([] : Bytes)))) then
   jv (T.Op.mk o.kind o.name o.text o.n o.extend o.edits (⟨true,([] : List T.Sel)⟩ : (Sl T.Sel))) >>= fun v89 =>
   some (v85.1,v89)
  else
   some (v85.1,false)
 else
  q5e o.kind >>= fun v91 =>
  if (v2 && (!(v91 == ([] : Bytes)))) then
   jv o >>= fun v95 =>
   some (v91,v95)
  else
   some (v91,false)
def q0v : ((Sl T.Op) × (Sl T.Op) × Int × Int × (List UInt8) × (List UInt8)) → Option ((((Sl UInt8) × Int × (List UInt8)) ⊕ ((List UInt8))))
 | (os,t30,t31,t32,out,r1_) =>
  if (decide (t32 < t31)) then
   qi t30.l t32 >>= fun x3 =>
   q4y x3 >>= fun v5 =>
   if (!v5.2) then
    some (.inl ((⟨true,([] : List UInt8)⟩ : Sl UInt8),2,out))
   else
    if j4 (out.length + v5.1.length) 1 = true then
     if j4 ((out ++ v5.1).length + 1) 1 = true then
      q0v (os,t30,t31,(IntKind.i64.wrap (t32 + 1)),((out ++ v5.1) ++ [10]),r1_)
     else none
    else none
  else
   some (.inr out)
 partial_fixpoint
def q4m (nums : (Sl Int)) (os : (Sl T.Op)) : Option (((Sl UInt8) × Int)) :=
 if 0 < [100,105,99,101].length then
  q2j (os,nums,(nums.l.length : Int),0,[100,105,99,101]) >>= fun v3 =>
  if j4 (v3.length + 1) 1 = true then
   q0v (os,os,(os.l.length : Int),0,(v3 ++ [10]),[10]) >>= fun v6 =>
   match v6 with
   | .inl y7 =>
    some (y7.1,y7.2.1)
   | .inr y8 =>
    if (decide ((os.l.length : Int) > 1000)) then
     some ((⟨true,([] : List UInt8)⟩ : Sl UInt8),7)
    else
    if (decide ((y8.length : Int) > 65536)) then
     some ((⟨true,([] : List UInt8)⟩ : Sl UInt8),4)
    else
     some ((⟨false,y8⟩ : Sl UInt8),0)
  else none
 else none
def q1u : (Int × Bytes × (List UInt8)) → Option ((Bytes))
 | (n,s,r0_) =>
  if (decide (n ≥ 10)) then
   if [(u8 (IntKind.u8.wrap (IntKind.i64.wrap (48 + ((IntKind.i64.wrap (n.tdiv (10 : Int))).tmod 10)))))].length + s.length ≤ 2 ^ 62 then
    q1u ((IntKind.i64.wrap (n.tdiv 10)),([(u8 (IntKind.u8.wrap (IntKind.i64.wrap (48 + ((IntKind.i64.wrap (n.tdiv (10 : Int))).tmod 10)))))] ++ s),r0_)
   else none
  else
   some s
 partial_fixpoint
def q1q (n : Int) : Option ((Bytes)) :=
 q1u (n,[(u8 (IntKind.u8.wrap (IntKind.i64.wrap (48 + (n.tmod 10)))))],[(u8 (IntKind.u8.wrap (IntKind.i64.wrap (48 + (n.tmod 10)))))]) >>= fun v2 =>
 some v2
def q20 : ((Sl Int) × (Sl T.Op) × Bytes × Int) → Option ((Bytes))
 | (nums,os,s,i) =>
  if (decide (i < (nums.l.length : Int))) then
   if s.length + ([32] : Bytes).length ≤ 2 ^ 62 then
    qi nums.l i >>= fun x4 =>
    q1q (IntKind.i64.wrap x4) >>= fun v6 =>
    if (s ++ ([32] : Bytes)).length + v6.length ≤ 2 ^ 62 then
     q20 (nums,os,((s ++ ([32] : Bytes)) ++ v6),(IntKind.i64.wrap (i + 1)))
    else none
   else none
  else
   some s
 partial_fixpoint
def q76 : Option (((Sl Bytes))) :=
 some (⟨false,[([] : Bytes),([115,101,116] : Bytes),([116,121,112,101] : Bytes),([101,114,97,115,101] : Bytes),([101,100,105,116] : Bytes),([115,101,108,101,99,116] : Bytes),([109,111,118,101] : Bytes),([105,110,115,101,114,116] : Bytes),([110,101,120,116] : Bytes),([112,114,101,118] : Bytes),([108,101,97,118,101] : Bytes),([99,104,111,111,115,101] : Bytes),([117,110,100,111] : Bytes),([114,101,100,111] : Bytes)]⟩ : Sl Bytes)
def q1h (n : Int) : Option ((Bool)) :=
 if (decide (n ≥ (-999999999999999999))) then
  some (decide (n ≤ 999999999999999999))
 else
  some false
def q2d (s : Bytes) : Option ((Bytes)) :=
 q1q (s.length : Int) >>= fun v2 =>
 if ([32] : Bytes).length + v2.length ≤ 2 ^ 62 then
  if (([32] : Bytes) ++ v2).length + ([58] : Bytes).length ≤ 2 ^ 62 then
   if ((([32] : Bytes) ++ v2) ++ ([58] : Bytes)).length + s.length ≤ 2 ^ 62 then
    some (((([32] : Bytes) ++ v2) ++ ([58] : Bytes)) ++ s)
   else none
  else none
 else none
def pq (n : Int) : Option ((Bytes)) :=
 if (decide (n < 0)) then
  q1q (IntKind.i64.wrap (0 - n)) >>= fun v3 =>
  if ([45] : Bytes).length + v3.length ≤ 2 ^ 62 then
   some (([45] : Bytes) ++ v3)
  else none
 else
  q1q n >>= fun v6 =>
  some v6
def q15 : (Bytes × Int × T.Op) → Option (((Bytes × Bool × Bytes) ⊕ (Bytes)))
 | (s,i,o) =>
  if (decide (i < (o.edits.l.length : Int))) then
   qi o.edits.l i >>= fun x3 =>
   q1h x3.span.frm >>= fun v5 =>
   if (!v5) then
    some (.inl (([] : Bytes),false,s))
   else
    q1h x3.span.to >>= fun v8 =>
    if (!v8) then
     some (.inl (([] : Bytes),false,s))
    else
     if s.length + ([32] : Bytes).length ≤ 2 ^ 62 then
      pq x3.span.frm >>= fun v12 =>
      if (s ++ ([32] : Bytes)).length + v12.length ≤ 2 ^ 62 then
       if ((s ++ ([32] : Bytes)) ++ v12).length + ([32] : Bytes).length ≤ 2 ^ 62 then
        pq x3.span.to >>= fun v16 =>
        if (((s ++ ([32] : Bytes)) ++ v12) ++ ([32] : Bytes)).length + v16.length ≤ 2 ^ 62 then
         q2d x3.text >>= fun v19 =>
         if ((((s ++ ([32] : Bytes)) ++ v12) ++ ([32] : Bytes)) ++ v16).length + v19.length ≤ 2 ^ 62 then
          q15 ((((((s ++ ([32] : Bytes)) ++ v12) ++ ([32] : Bytes)) ++ v16) ++ v19),(IntKind.i64.wrap (i + 1)),o)
         else none
        else none
       else none
      else none
     else none
  else
   some (.inr s)
 partial_fixpoint
def q0t : (Bytes × Int × T.Op) → Option (((Bytes × Bool × Bytes) ⊕ (Bytes)))
 | (s,i,o) =>
  if (decide (i < (o.sels.l.length : Int))) then
   qi o.sels.l i >>= fun x3 =>
   q1h x3.anchor >>= fun v5 =>
   if (!v5) then
    some (.inl (([] : Bytes),false,s))
   else
    q1h x3.head >>= fun v8 =>
    if (!v8) then
     some (.inl (([] : Bytes),false,s))
    else
     if s.length + ([32] : Bytes).length ≤ 2 ^ 62 then
      pq x3.anchor >>= fun v12 =>
      if (s ++ ([32] : Bytes)).length + v12.length ≤ 2 ^ 62 then
       if ((s ++ ([32] : Bytes)) ++ v12).length + ([32] : Bytes).length ≤ 2 ^ 62 then
        pq x3.head >>= fun v16 =>
        if (((s ++ ([32] : Bytes)) ++ v12) ++ ([32] : Bytes)).length + v16.length ≤ 2 ^ 62 then
         q0t (((((s ++ ([32] : Bytes)) ++ v12) ++ ([32] : Bytes)) ++ v16),(IntKind.i64.wrap (i + 1)),o)
        else none
       else none
      else none
     else none
  else
   some (.inr s)
 partial_fixpoint
def q53 (o : T.Op) : Option ((Bytes × Bool)) :=
 q76 >>= fun v2 =>
 if ((decide (o.kind < 1)) || (decide (o.kind > 13))) then
  some (([] : Bytes),false)
 else
  q1h o.n >>= fun v6 =>
  if (!v6) then
   some (([] : Bytes),false)
  else
   qi v2.l o.kind >>= fun x9 =>
   if (o.kind == 1) then
    q2d o.name >>= fun v12 =>
    if x9.length + v12.length ≤ 2 ^ 62 then
     q2d o.text >>= fun v15 =>
     if (x9 ++ v12).length + v15.length ≤ 2 ^ 62 then
      if ((x9 ++ v12) ++ v15).length + ([10] : Bytes).length ≤ 2 ^ 62 then
       if ((([] : Bytes) == ([] : Bytes)) && ((o.n == 0) && ((!o.extend) && ((o.edits.l.length : Int) == 0)))) then
        some ((((x9 ++ v12) ++ v15) ++ ([10] : Bytes)),((o.sels.l.length : Int) == 0))
       else
        some ((((x9 ++ v12) ++ v15) ++ ([10] : Bytes)),false)
      else none
     else none
    else none
   else
   if ((o.kind == 2) || (o.kind == 7)) then
    q2d o.text >>= fun v24 =>
    if x9.length + v24.length ≤ 2 ^ 62 then
     if (x9 ++ v24).length + ([10] : Bytes).length ≤ 2 ^ 62 then
      if ((o.name == ([] : Bytes)) && ((([] : Bytes) == ([] : Bytes)) && ((o.n == 0) && ((!o.extend) && ((o.edits.l.length : Int) == 0))))) then
       some (((x9 ++ v24) ++ ([10] : Bytes)),((o.sels.l.length : Int) == 0))
      else
       some (((x9 ++ v24) ++ ([10] : Bytes)),false)
     else none
    else none
   else
   if ((o.kind == 3) || (o.kind == 11)) then
    if x9.length + ([32] : Bytes).length ≤ 2 ^ 62 then
     pq o.n >>= fun v45 =>
     if (x9 ++ ([32] : Bytes)).length + v45.length ≤ 2 ^ 62 then
      if ((x9 ++ ([32] : Bytes)) ++ v45).length + ([10] : Bytes).length ≤ 2 ^ 62 then
       if ((o.name == ([] : Bytes)) && ((o.text == ([] : Bytes)) && ((!o.extend) && ((o.edits.l.length : Int) == 0)))) then
        some ((((x9 ++ ([32] : Bytes)) ++ v45) ++ ([10] : Bytes)),((o.sels.l.length : Int) == 0))
       else
        some ((((x9 ++ ([32] : Bytes)) ++ v45) ++ ([10] : Bytes)),false)
      else none
     else none
    else none
   else
   if (o.kind == 6) then
    if x9.length + ([32] : Bytes).length ≤ 2 ^ 62 then
     pq o.n >>= fun v65 =>
     if (x9 ++ ([32] : Bytes)).length + v65.length ≤ 2 ^ 62 then
      if ((x9 ++ ([32] : Bytes)) ++ v65).length + ([32,48] : Bytes).length ≤ 2 ^ 62 then
       if o.extend then
        yl (((x9 ++ ([32] : Bytes)) ++ v65) ++ ([32,48] : Bytes)) (IntKind.i64.wrap (((((x9 ++ ([32] : Bytes)) ++ v65) ++ ([32,48] : Bytes)).length : Int) - 1)) >>= fun r70 =>
        if r70.length + ([49] : Bytes).length ≤ 2 ^ 62 then
         if (r70 ++ ([49] : Bytes)).length + ([10] : Bytes).length ≤ 2 ^ 62 then
          if ((o.name == ([] : Bytes)) && ((o.text == ([] : Bytes)) && ((o.edits.l.length : Int) == 0))) then
           some (((r70 ++ ([49] : Bytes)) ++ ([10] : Bytes)),((o.sels.l.length : Int) == 0))
          else
           some (((r70 ++ ([49] : Bytes)) ++ ([10] : Bytes)),false)
         else none
        else none
       else
        if (((x9 ++ ([32] : Bytes)) ++ v65) ++ ([32,48] : Bytes)).length + ([10] : Bytes).length ≤ 2 ^ 62 then
         if ((o.name == ([] : Bytes)) && ((o.text == ([] : Bytes)) && ((o.edits.l.length : Int) == 0))) then
          some (((((x9 ++ ([32] : Bytes)) ++ v65) ++ ([32,48] : Bytes)) ++ ([10] : Bytes)),((o.sels.l.length : Int) == 0))
         else
          some (((((x9 ++ ([32] : Bytes)) ++ v65) ++ ([32,48] : Bytes)) ++ ([10] : Bytes)),false)
        else none
      else none
     else none
    else none
   else
   if (o.kind == 4) then
    q15 (x9,0,o) >>= fun v82 =>
    match v82 with
    | .inl y83 =>
     some (y83.1,y83.2.1)
    | .inr y84 =>
     if y84.length + ([10] : Bytes).length ≤ 2 ^ 62 then
      if ((o.name == ([] : Bytes)) && ((o.text == ([] : Bytes)) && ((o.n == 0) && (!o.extend)))) then
       some ((y84 ++ ([10] : Bytes)),((o.sels.l.length : Int) == 0))
      else
       some ((y84 ++ ([10] : Bytes)),false)
     else none
   else
   if (o.kind == 5) then
    q0t (x9,0,o) >>= fun v92 =>
    match v92 with
    | .inl y93 =>
     some (y93.1,y93.2.1)
    | .inr y94 =>
     if y94.length + ([10] : Bytes).length ≤ 2 ^ 62 then
      if ((o.name == ([] : Bytes)) && ((o.text == ([] : Bytes)) && ((o.n == 0) && ((!o.extend) && ((o.edits.l.length : Int) == 0))))) then
       some ((y94 ++ ([10] : Bytes)),true)
      else
       some ((y94 ++ ([10] : Bytes)),false)
     else none
   else
    if x9.length + ([10] : Bytes).length ≤ 2 ^ 62 then
     if ((o.name == ([] : Bytes)) && ((o.text == ([] : Bytes)) && ((o.n == 0) && ((!o.extend) && ((o.edits.l.length : Int) == 0))))) then
      some ((x9 ++ ([10] : Bytes)),((o.sels.l.length : Int) == 0))
     else
      some ((x9 ++ ([10] : Bytes)),false)
    else none
def q17 : ((Sl T.Op) × Bytes × Int) → Option ((((Sl UInt8) × Int × Bytes) ⊕ (Bytes)))
 | (os,s,i) =>
  if (decide (i < (os.l.length : Int))) then
   qi os.l i >>= fun x3 =>
   q53 x3 >>= fun v5 =>
   if (!v5.2) then
    some (.inl ((⟨true,([] : List UInt8)⟩ : Sl UInt8),2,s))
   else
    if s.length + v5.1.length ≤ 2 ^ 62 then
     q17 (os,(s ++ v5.1),(IntKind.i64.wrap (i + 1)))
    else none
  else
   some (.inr s)
 partial_fixpoint
def q5a (nums : (Sl Int)) (os : (Sl T.Op)) : Option (((Sl UInt8) × Int)) :=
 q20 (nums,os,([100,105,99,101] : Bytes),0) >>= fun v2 =>
 if v2.length + ([10] : Bytes).length ≤ 2 ^ 62 then
  q17 (os,(v2 ++ ([10] : Bytes)),0) >>= fun v5 =>
  match v5 with
  | .inl y6 =>
   some (y6.1,y6.2.1)
  | .inr y7 =>
   if (decide ((os.l.length : Int) > 1000)) then
    some ((⟨true,([] : List UInt8)⟩ : Sl UInt8),7)
   else
   if (decide ((y7.length : Int) > 65536)) then
    some ((⟨true,([] : List UInt8)⟩ : Sl UInt8),4)
   else
    some ((⟨false,y7⟩ : Sl UInt8),0)
 else none
def q7e (n : (Sl Int)) (os : (Sl T.Op)) : Option ((Bool)) :=
 if (decide ((n.l.length : Int) > 10)) then
  aw5 >>= fun v3 =>
  some v3
 else
  q57 8 150 os >>= fun v5 =>
  if v5 then
   aw5 >>= fun v8 =>
   some v8
  else
   q4m n os >>= fun v10 =>
   q5a n os >>= fun v12 =>
   if ((v10.1.l == v12.1.l) && (v10.2 == v12.2)) then
    aw5 >>= fun v16 =>
    some v16
   else
    some false
end Go.Proofs.YtlapkkdodjhgpaaGreatDoor
