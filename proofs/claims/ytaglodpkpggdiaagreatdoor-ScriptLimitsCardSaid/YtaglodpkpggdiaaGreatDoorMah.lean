/-
  The functions as plain Lean functions.
-/
import Derived.Test.YtaglodpkpggdiaaGreatDoorMaf
set_option linter.unusedSimpArgs false
set_option linter.unusedVariables false
set_option maxRecDepth 100000
namespace Go.Proofs.YtaglodpkpggdiaaGreatDoor
open Go Go.Gm
def q4h (x : Int) (n : Int) : Option ((Int)) :=
 if (IntKind.u64.wrap n) ≠ 0 then
  some (IntKind.i64.wrap ((IntKind.u64.wrap x).tmod (IntKind.u64.wrap n)))
 else none
def wz (n : Int) : Option ((Bytes)) :=
 q7o n >>= fun v2 =>
 if ([32] : Bytes).length + v2.length ≤ 2 ^ 62 then
  some (([32] : Bytes) ++ v2)
 else none
def q2j : ((Sl T.Op) × (Sl Int) × Int × Int × (List UInt8)) → Option (((List UInt8)))
 | (os,t15,t16,t17,out) =>
  if (decide (t17 < t16)) then
   zb t15.l t17 >>= fun x3 =>
   wz (IntKind.i64.wrap x3) >>= fun v5 =>
   if zt (out.length + v5.length) 1 = true then
    q2j (os,t15,t16,(IntKind.i64.wrap (t17 + 1)),(out ++ v5))
   else none
  else
   some out
 partial_fixpoint
def uy : ((Sl Int) × Int × Int) → Option (((Bool) ⊕ (Unit)))
 | (t5,t6,t7) =>
  if (decide (t7 < t6)) then
   zb t5.l t7 >>= fun x3 =>
   if ((decide (x3 ≤ (-1000000000000000000))) || (decide (x3 ≥ 1000000000000000000))) then
    some (.inl false)
   else
    uy (t5,t6,(IntKind.i64.wrap (t7 + 1)))
  else
   some (.inr ())
 partial_fixpoint
def q1e (ns : (Sl Int)) : Option ((Bool)) :=
 uy (ns,(ns.l.length : Int),0) >>= fun v2 =>
 match v2 with
 | .inl y3 =>
  some y3
 | .inr y4 =>
  some true
def q0o (s : Bytes) : Option ((Bytes)) :=
 wz (s.length : Int) >>= fun v2 =>
 if v2.length + ([58] : Bytes).length ≤ 2 ^ 62 then
  if (v2 ++ ([58] : Bytes)).length + s.length ≤ 2 ^ 62 then
   some ((v2 ++ ([58] : Bytes)) ++ s)
  else none
 else none
def vw (o : T.Op) : Option ((Bool)) :=
 if ((o.name == ([] : Bytes)) && ((o.text == ([] : Bytes)) && ((o.n == 0) && ((!o.extend) && ((o.edits.l.length : Int) == 0))))) then
  some ((o.sels.l.length : Int) == 0)
 else
  some false
def q1n : (Bytes × Bool × (Sl T.qd) × Int × Int × T.Op × T.Op) → Option ((Bytes × Bool))
 | (out,ok_,t82,t83,t84,b0_,rest) =>
  if (decide (t84 < t83)) then
   zb t82.l t84 >>= fun x3 =>
   if ok_ then
    q1e (⟨false,[x3.span.frm,x3.span.to]⟩ : Sl Int) >>= fun v6 =>
    wz x3.span.frm >>= fun v8 =>
    wz x3.span.to >>= fun v10 =>
    if v8.length + v10.length ≤ 2 ^ 62 then
     q0o x3.text >>= fun v13 =>
     if (v8 ++ v10).length + v13.length ≤ 2 ^ 62 then
      if out.length + ((v8 ++ v10) ++ v13).length ≤ 2 ^ 62 then
       q1n ((out ++ ((v8 ++ v10) ++ v13)),v6,t82,t83,(IntKind.i64.wrap (t84 + 1)),b0_,rest)
      else none
     else none
    else none
   else
    wz x3.span.frm >>= fun v17 =>
    wz x3.span.to >>= fun v19 =>
    if v17.length + v19.length ≤ 2 ^ 62 then
     q0o x3.text >>= fun v22 =>
     if (v17 ++ v19).length + v22.length ≤ 2 ^ 62 then
      if out.length + ((v17 ++ v19) ++ v22).length ≤ 2 ^ 62 then
       q1n ((out ++ ((v17 ++ v19) ++ v22)),false,t82,t83,(IntKind.i64.wrap (t84 + 1)),b0_,rest)
      else none
     else none
    else none
  else
   some (out,ok_)
 partial_fixpoint
def q1w : (Bytes × Bool × (Sl T.Sel) × Int × Int × T.Op × T.Op) → Option ((Bytes × Bool))
 | (out,ok_,t119,t120,t121,b0_,rest) =>
  if (decide (t121 < t120)) then
   zb t119.l t121 >>= fun x3 =>
   if ok_ then
    q1e (⟨false,[x3.anchor,x3.head]⟩ : Sl Int) >>= fun v6 =>
    wz x3.anchor >>= fun v8 =>
    wz x3.head >>= fun v10 =>
    if v8.length + v10.length ≤ 2 ^ 62 then
     if out.length + (v8 ++ v10).length ≤ 2 ^ 62 then
      q1w ((out ++ (v8 ++ v10)),v6,t119,t120,(IntKind.i64.wrap (t121 + 1)),b0_,rest)
     else none
    else none
   else
    wz x3.anchor >>= fun v14 =>
    wz x3.head >>= fun v16 =>
    if v14.length + v16.length ≤ 2 ^ 62 then
     if out.length + (v14 ++ v16).length ≤ 2 ^ 62 then
      q1w ((out ++ (v14 ++ v16)),false,t119,t120,(IntKind.i64.wrap (t121 + 1)),b0_,rest)
     else none
    else none
  else
   some (out,ok_)
 partial_fixpoint
def mh (word : Bytes) : Option ((Int)) :=
 if (word == ([110,101,120,116] : Bytes)) then
  some 8
 else
 if (word == ([112,114,101,118] : Bytes)) then
  some 9
 else
 if (word == ([108,101,97,118,101] : Bytes)) then
  some 10
 else
 if (word == ([117,110,100,111] : Bytes)) then
  some 12
 else
 if (word == ([114,101,100,111] : Bytes)) then
  some 13
 else
  some 0
def q3i : (Int × Int × Int × (List Bytes)) → Option (((Bytes) ⊕ (Unit)))
 | (kind,t6,t7,t5) =>
  if (decide (t7 < t6)) then
   zb t5 t7 >>= fun x3 =>
   mh x3 >>= fun v5 =>
   if (v5 == kind) then
    some (.inl x3)
   else
    q3i (kind,t6,(IntKind.i64.wrap (t7 + 1)),t5)
  else
   some (.inr ())
 partial_fixpoint
def q78 (kind : Int) : Option ((Bytes)) :=
 q3i (kind,((5 : Nat) : Int),0,[([110,101,120,116] : Bytes),([112,114,101,118] : Bytes),([108,101,97,118,101] : Bytes),([117,110,100,111] : Bytes),([114,101,100,111] : Bytes)]) >>= fun v2 =>
 match v2 with
 | .inl y3 =>
  some y3
 | .inr y4 =>
  some ([] : Bytes)
def q7d (o : T.Op) : Option ((Bytes × Bool)) :=
 q1e (⟨false,[o.n]⟩ : Sl Int) >>= fun v2 =>
 if (o.kind == 1) then
  q0o o.name >>= fun v5 =>
  if ([115,101,116] : Bytes).length + v5.length ≤ 2 ^ 62 then
   q0o o.text >>= fun v8 =>
   if (([115,101,116] : Bytes) ++ v5).length + v8.length ≤ 2 ^ 62 then
    if (v2 && (!(((([115,101,116] : Bytes) ++ v5) ++ v8) == ([] : Bytes)))) then
     vw (T.Op.mk o.kind ([] : Bytes) ([] : Bytes) o.n o.extend o.edits o.sels) >>= fun v13 =>
     some (((([115,101,116] : Bytes) ++ v5) ++ v8),v13)
    else
     some (((([115,101,116] : Bytes) ++ v5) ++ v8),false)
   else none
  else none
 else
 if (o.kind == 2) then
  q0o o.text >>= fun v16 =>
  if ([116,121,112,101] : Bytes).length + v16.length ≤ 2 ^ 62 then
   if (o.kind == 7) then
    if ([105,110,115,101,114,116] : Bytes).length + v16.length ≤ 2 ^ 62 then
     if (v2 && (!((([105,110,115,101,114,116] : Bytes) ++ v16) == ([] : Bytes)))) then
      vw (T.Op.mk o.kind o.name ([] : Bytes) o.n o.extend o.edits o.sels) >>= fun v23 =>
      some ((([105,110,115,101,114,116] : Bytes) ++ v16),v23)
     else
      some ((([105,110,115,101,114,116] : Bytes) ++ v16),false)
    else none
   else
   if (v2 && (!((([116,121,112,101] : Bytes) ++ v16) == ([] : Bytes)))) then
    vw (T.Op.mk o.kind o.name ([] : Bytes) o.n o.extend o.edits o.sels) >>= fun v27 =>
    some ((([116,121,112,101] : Bytes) ++ v16),v27)
   else
    some ((([116,121,112,101] : Bytes) ++ v16),false)
  else none
 else
 if (o.kind == 7) then
  q0o o.text >>= fun v30 =>
  if ([116,121,112,101] : Bytes).length + v30.length ≤ 2 ^ 62 then
   if ([105,110,115,101,114,116] : Bytes).length + v30.length ≤ 2 ^ 62 then
    if (v2 && (!((([105,110,115,101,114,116] : Bytes) ++ v30) == ([] : Bytes)))) then
     vw (T.Op.mk o.kind o.name ([] : Bytes) o.n o.extend o.edits o.sels) >>= fun v36 =>
     some ((([105,110,115,101,114,116] : Bytes) ++ v30),v36)
    else
     some ((([105,110,115,101,114,116] : Bytes) ++ v30),false)
   else none
  else none
 else
 if (o.kind == 3) then
  wz o.n >>= fun v39 =>
  if ([101,114,97,115,101] : Bytes).length + v39.length ≤ 2 ^ 62 then
   if (o.kind == 11) then
    if ([99,104,111,111,115,101] : Bytes).length + v39.length ≤ 2 ^ 62 then
     if (v2 && (!((([99,104,111,111,115,101] : Bytes) ++ v39) == ([] : Bytes)))) then
      vw (T.Op.mk o.kind o.name o.text 0 o.extend o.edits o.sels) >>= fun v46 =>
      some ((([99,104,111,111,115,101] : Bytes) ++ v39),v46)
     else
      some ((([99,104,111,111,115,101] : Bytes) ++ v39),false)
    else none
   else
   if (v2 && (!((([101,114,97,115,101] : Bytes) ++ v39) == ([] : Bytes)))) then
    vw (T.Op.mk o.kind o.name o.text 0 o.extend o.edits o.sels) >>= fun v50 =>
    some ((([101,114,97,115,101] : Bytes) ++ v39),v50)
   else
    some ((([101,114,97,115,101] : Bytes) ++ v39),false)
  else none
 else
 if (o.kind == 11) then
  wz o.n >>= fun v53 =>
  if ([101,114,97,115,101] : Bytes).length + v53.length ≤ 2 ^ 62 then
   if ([99,104,111,111,115,101] : Bytes).length + v53.length ≤ 2 ^ 62 then
    if (v2 && (!((([99,104,111,111,115,101] : Bytes) ++ v53) == ([] : Bytes)))) then
     vw (T.Op.mk o.kind o.name o.text 0 o.extend o.edits o.sels) >>= fun v59 =>
     some ((([99,104,111,111,115,101] : Bytes) ++ v53),v59)
    else
     some ((([99,104,111,111,115,101] : Bytes) ++ v53),false)
   else none
  else none
 else
 if (o.kind == 6) then
  wz o.n >>= fun v62 =>
  if ([109,111,118,101] : Bytes).length + v62.length ≤ 2 ^ 62 then
   if (([109,111,118,101] : Bytes) ++ v62).length + ([32,48] : Bytes).length ≤ 2 ^ 62 then
    if o.extend then
     if ([109,111,118,101] : Bytes).length + v62.length ≤ 2 ^ 62 then
      if (([109,111,118,101] : Bytes) ++ v62).length + ([32,49] : Bytes).length ≤ 2 ^ 62 then
       if (v2 && (!(((([109,111,118,101] : Bytes) ++ v62) ++ ([32,49] : Bytes)) == ([] : Bytes)))) then
        vw (T.Op.mk o.kind o.name o.text 0 false o.edits o.sels) >>= fun v71 =>
        some (((([109,111,118,101] : Bytes) ++ v62) ++ ([32,49] : Bytes)),v71)
       else
        some (((([109,111,118,101] : Bytes) ++ v62) ++ ([32,49] : Bytes)),false)
      else none
     else none
    else
    if (v2 && (!(((([109,111,118,101] : Bytes) ++ v62) ++ ([32,48] : Bytes)) == ([] : Bytes)))) then
     vw (T.Op.mk o.kind o.name o.text 0 false o.edits o.sels) >>= fun v75 =>
     some (((([109,111,118,101] : Bytes) ++ v62) ++ ([32,48] : Bytes)),v75)
    else
     some (((([109,111,118,101] : Bytes) ++ v62) ++ ([32,48] : Bytes)),false)
   else none
  else none
 else
 if (o.kind == 4) then
  q1n (([101,100,105,116] : Bytes),v2,o.edits,(o.edits.l.length : Int),0,o,o) >>= fun v78 =>
  if (v78.2 && (!(v78.1 == ([] : Bytes)))) then
   vw (T.Op.mk o.kind o.name o.text o.n o.extend (⟨true,([] : List T.qd)⟩ : (Sl T.qd)) o.sels) >>= fun v82 =>
   some (v78.1,v82)
  else
   some (v78.1,false)
 else
 if (o.kind == 5) then
  q1w (([115,101,108,101,99,116] : Bytes),v2,o.sels,(o.sels.l.length : Int),0,o,o) >>= fun v85 =>
  if (v85.2 && (!(v85.1 == ([] : Bytes)))) then
   vw (T.Op.mk o.kind o.name o.text o.n o.extend o.edits (⟨true,([] : List T.Sel)⟩ : (Sl T.Sel))) >>= fun v89 =>
   some (v85.1,v89)
  else
   some (v85.1,false)
 else
  q78 o.kind >>= fun v91 =>
  if (v2 && (!(v91 == ([] : Bytes)))) then
   vw o >>= fun v95 =>
   some (v91,v95)
  else
   some (v91,false)
def q29 : ((Sl T.Op) × (Sl T.Op) × Int × Int × (List UInt8) × (List UInt8)) → Option ((((Sl UInt8) × Int × (List UInt8)) ⊕ ((List UInt8))))
 | (os,t30,t31,t32,out,r1_) =>
  if (decide (t32 < t31)) then
   zb t30.l t32 >>= fun x3 =>
   q7d x3 >>= fun v5 =>
   if (!v5.2) then
    some (.inl ((⟨true,([] : List UInt8)⟩ : Sl UInt8),2,out))
   else
    if zt (out.length + v5.1.length) 1 = true then
     if zt ((out ++ v5.1).length + 1) 1 = true then
      q29 (os,t30,t31,(IntKind.i64.wrap (t32 + 1)),((out ++ v5.1) ++ [10]),r1_)
     else none
    else none
  else
   some (.inr out)
 partial_fixpoint
def q2h (nums : (Sl Int)) (os : (Sl T.Op)) : Option (((Sl UInt8) × Int)) :=
 if 0 < [100,105,99,101].length then
  q2j (os,nums,(nums.l.length : Int),0,[100,105,99,101]) >>= fun v3 =>
  if zt (v3.length + 1) 1 = true then
   q29 (os,os,(os.l.length : Int),0,(v3 ++ [10]),[10]) >>= fun v6 =>
   match v6 with
   | .inl y7 =>
    some (y7.1,y7.2.1)
   | .inr y8 =>
    if (decide ((os.l.length : Int) > 1000)) then
     some ((⟨true,([] : List UInt8)⟩ : Sl UInt8),7)
    else
    if (decide ((y8.length : Int) > 65536)) then
     some ((⟨true,([] : List UInt8)⟩ : Sl UInt8),4)
    else
     some ((⟨false,y8⟩ : Sl UInt8),0)
  else none
 else none
def q27 : (Int × T.qb) → Option ((T.qb))
 | (frm,p_) =>
  if (decide (p_.place.at_ < (p_.place.b.l.length : Int))) then
   zb p_.place.b.l p_.place.at_ >>= fun x3 =>
   if (decide ((x3.toNat : Int) ≥ 97)) then
    if (decide ((x3.toNat : Int) ≤ 122)) then
     q27 (frm,(T.qb.mk (T.yh.mk p_.place.b (IntKind.i64.wrap (p_.place.at_ + 1))) p_.ok_))
    else
     some p_
   else
    some p_
  else
   some p_
 partial_fixpoint
def q5h (b : T.qb) : Option ((Bytes × T.qb)) :=
 q27 (b.place.at_,b) >>= fun v2 =>
 jg v2.place.b.l b.place.at_ v2.place.at_ >>= fun r4 =>
 some (r4,v2)
def q4r (b : T.qb) : Option ((Bool)) :=
 if (b.ok_ && (decide (b.place.at_ < (b.place.b.l.length : Int)))) then
  zb b.place.b.l b.place.at_ >>= fun x4 =>
  some ((x4.toNat : Int) == 32)
 else
  some false
def je (c : UInt8) (b : T.qb) : Option ((Bool × T.qb)) :=
 if (decide (b.place.at_ ≥ (b.place.b.l.length : Int))) then
  some (false,b)
 else
  zb b.place.b.l b.place.at_ >>= fun x3 =>
  if ((x3.toNat : Int) != (c.toNat : Int)) then
   some (false,b)
  else
   some (true,(T.qb.mk (T.yh.mk b.place.b (IntKind.i64.wrap (b.place.at_ + 1))) b.ok_))
def q4d (b : T.qb) : Option ((T.qb)) :=
 if b.ok_ then
  je 32 b >>= fun v3 =>
  some (T.qb.mk v3.2.place v3.1)
 else
  some (T.qb.mk b.place false)
def q25 : (Bool × Int × Int × T.qb) → Option (((Int × Bool × Int × T.qb) ⊕ (Int × T.qb)))
 | (below,frm,n,p_) =>
  if (decide (p_.place.at_ < (p_.place.b.l.length : Int))) then
   zb p_.place.b.l p_.place.at_ >>= fun x3 =>
   if (decide ((x3.toNat : Int) ≥ 48)) then
    if (decide ((x3.toNat : Int) ≤ 57)) then
     if ((IntKind.i64.wrap (p_.place.at_ - frm)) == 18) then
      some (.inl (0,false,n,p_))
     else
      q25 (below,frm,(IntKind.i64.wrap ((IntKind.i64.wrap (10 * n)) + (IntKind.i64.wrap (IntKind.u8.wrap ((x3.toNat : Int) - 48))))),(T.qb.mk (T.yh.mk p_.place.b (IntKind.i64.wrap (p_.place.at_ + 1))) p_.ok_))
    else
     some (.inr (n,p_))
   else
    some (.inr (n,p_))
  else
   some (.inr (n,p_))
 partial_fixpoint
def q4n (b : T.qb) : Option ((Int × Bool × T.qb)) :=
 je 45 b >>= fun v2 =>
 q25 (v2.1,v2.2.place.at_,0,v2.2) >>= fun v4 =>
 match v4 with
 | .inl y5 =>
  some (y5.1,y5.2.1,y5.2.2.2)
 | .inr y6 =>
  if (y6.2.place.at_ == v2.2.place.at_) then
   some (0,false,y6.2)
  else
   zb y6.2.place.b.l v2.2.place.at_ >>= fun x9 =>
   if ((x9.toNat : Int) == 48) then
    if (v2.1 || (decide ((IntKind.i64.wrap (y6.2.place.at_ - v2.2.place.at_)) > 1))) then
     some (0,false,y6.2)
    else
     some (y6.1,true,y6.2)
   else
   if v2.1 then
    some ((IntKind.i64.wrap (0 - y6.1)),true,y6.2)
   else
    some (y6.1,true,y6.2)
def mg (b : T.qb) : Option ((Int × T.qb)) :=
 q4d b >>= fun v2 =>
 q4n v2 >>= fun v4 =>
 if v4.2.2.ok_ then
  some (v4.1,(T.qb.mk v4.2.2.place v4.2.1))
 else
  some (v4.1,(T.qb.mk v4.2.2.place false))
def q0y : (T.qb × (List Int)) → Option ((T.qb × (List Int)))
 | (r_,nums) =>
  q4r r_ >>= fun v2 =>
  if v2 then
   mg r_ >>= fun v5 =>
   if (v5.2.ok_ && (decide (v5.1 ≥ 0))) then
    if zt (nums.length + 1) 4 = true then
     q0y ((T.qb.mk v5.2.place (decide (v5.1 < 4294967296))),(nums ++ [(IntKind.u32.wrap v5.1)]))
    else none
   else
    if zt (nums.length + 1) 4 = true then
     q0y ((T.qb.mk v5.2.place false),(nums ++ [(IntKind.u32.wrap v5.1)]))
    else none
  else
   some (r_,nums)
 partial_fixpoint
def q6s (b : T.qb) : Option (((Sl Int) × T.qb)) :=
 q5h b >>= fun v2 =>
 q0y ((T.qb.mk v2.2.place (v2.1 == ([100,105,99,101] : Bytes))),([] : List Int)) >>= fun v4 =>
 if v4.1.ok_ then
  je 10 v4.1 >>= fun v7 =>
  some ((⟨v4.2.isEmpty,v4.2⟩ : Sl Int),(T.qb.mk v7.2.place v7.1))
 else
  some ((⟨v4.2.isEmpty,v4.2⟩ : Sl Int),(T.qb.mk v4.1.place false))
def q5t (b : T.qb) : Option ((Bytes × Bool × T.qb)) :=
 q4n b >>= fun v2 =>
 if (!v2.2.1) then
  some (([] : Bytes),false,v2.2.2)
 else
  je 58 v2.2.2 >>= fun v5 =>
  if ((!v5.1) || ((decide (v2.1 < 0)) || (decide (v2.1 > (IntKind.i64.wrap ((v5.2.place.b.l.length : Int) - v5.2.place.at_)))))) then
   some (([] : Bytes),false,v5.2)
  else
   jg v5.2.place.b.l (IntKind.i64.wrap ((IntKind.i64.wrap (v5.2.place.at_ + v2.1)) - v2.1)) (IntKind.i64.wrap (v5.2.place.at_ + v2.1)) >>= fun r10 =>
   some (r10,true,(T.qb.mk (T.yh.mk v5.2.place.b (IntKind.i64.wrap (v5.2.place.at_ + v2.1))) v5.2.ok_))
def q2a (b : T.qb) : Option ((Bytes × T.qb)) :=
 q4d b >>= fun v2 =>
 q5t v2 >>= fun v4 =>
 if v4.2.2.ok_ then
  some (v4.1,(T.qb.mk v4.2.2.place v4.2.1))
 else
  some (v4.1,(T.qb.mk v4.2.2.place false))
def q2f : (T.qb × T.Op × Int × Bytes × Bytes × Int × Bool × (Sl T.Sel) × (List T.qd)) → Option ((T.qb × (List T.qd)))
 | (r_,t2,o,o2,o3,o4,o5,o6,r3_) =>
  q4r r_ >>= fun v2 =>
  if v2 then
   mg r_ >>= fun v5 =>
   mg v5.2 >>= fun v7 =>
   q2a v7.2 >>= fun v9 =>
   if zt (r3_.length + 1) 32 = true then
    q2f (v9.2,t2,o,o2,o3,o4,o5,o6,(r3_ ++ [(T.qd.mk (T.Span.mk v5.1 v7.1) v9.1)]))
   else none
  else
   some (r_,r3_)
 partial_fixpoint
def q2e : (T.qb × T.Op × Int × Bytes × Bytes × Int × Bool × (Sl T.qd) × (List T.Sel)) → Option ((T.qb × (List T.Sel)))
 | (r_,t2,o,o2,o3,o4,o5,o6,r3_) =>
  q4r r_ >>= fun v2 =>
  if v2 then
   mg r_ >>= fun v5 =>
   mg v5.2 >>= fun v7 =>
   if zt (r3_.length + 1) 16 = true then
    q2e (v7.2,t2,o,o2,o3,o4,o5,o6,(r3_ ++ [(T.Sel.mk v5.1 v7.1)]))
   else none
  else
   some (r_,r3_)
 partial_fixpoint
def q7c (b : T.qb) : Option ((T.Op × T.qb)) :=
 q5h b >>= fun v2 =>
 if (v2.1 == ([115,101,116] : Bytes)) then
  q2a v2.2 >>= fun v5 =>
  q2a v5.2 >>= fun v7 =>
  if v7.2.ok_ then
   je 10 v7.2 >>= fun v10 =>
   some ((T.Op.mk 1 v5.1 v7.1 0 false (⟨true,([] : List T.qd)⟩ : (Sl T.qd)) (⟨true,([] : List T.Sel)⟩ : (Sl T.Sel))),(T.qb.mk v10.2.place v10.1))
  else
   some ((T.Op.mk 1 v5.1 v7.1 0 false (⟨true,([] : List T.qd)⟩ : (Sl T.qd)) (⟨true,([] : List T.Sel)⟩ : (Sl T.Sel))),(T.qb.mk v7.2.place false))
 else
 if (v2.1 == ([116,121,112,101] : Bytes)) then
  q2a v2.2 >>= fun v13 =>
  if v13.2.ok_ then
   je 10 v13.2 >>= fun v16 =>
   some ((T.Op.mk 2 ([] : Bytes) v13.1 0 false (⟨true,([] : List T.qd)⟩ : (Sl T.qd)) (⟨true,([] : List T.Sel)⟩ : (Sl T.Sel))),(T.qb.mk v16.2.place v16.1))
  else
   some ((T.Op.mk 2 ([] : Bytes) v13.1 0 false (⟨true,([] : List T.qd)⟩ : (Sl T.qd)) (⟨true,([] : List T.Sel)⟩ : (Sl T.Sel))),(T.qb.mk v13.2.place false))
 else
 if (v2.1 == ([105,110,115,101,114,116] : Bytes)) then
  q2a v2.2 >>= fun v19 =>
  if v19.2.ok_ then
   je 10 v19.2 >>= fun v22 =>
   some ((T.Op.mk 7 ([] : Bytes) v19.1 0 false (⟨true,([] : List T.qd)⟩ : (Sl T.qd)) (⟨true,([] : List T.Sel)⟩ : (Sl T.Sel))),(T.qb.mk v22.2.place v22.1))
  else
   some ((T.Op.mk 7 ([] : Bytes) v19.1 0 false (⟨true,([] : List T.qd)⟩ : (Sl T.qd)) (⟨true,([] : List T.Sel)⟩ : (Sl T.Sel))),(T.qb.mk v19.2.place false))
 else
 if (v2.1 == ([101,114,97,115,101] : Bytes)) then
  mg v2.2 >>= fun v25 =>
  if v25.2.ok_ then
   je 10 v25.2 >>= fun v28 =>
   some ((T.Op.mk 3 ([] : Bytes) ([] : Bytes) v25.1 false (⟨true,([] : List T.qd)⟩ : (Sl T.qd)) (⟨true,([] : List T.Sel)⟩ : (Sl T.Sel))),(T.qb.mk v28.2.place v28.1))
  else
   some ((T.Op.mk 3 ([] : Bytes) ([] : Bytes) v25.1 false (⟨true,([] : List T.qd)⟩ : (Sl T.qd)) (⟨true,([] : List T.Sel)⟩ : (Sl T.Sel))),(T.qb.mk v25.2.place false))
 else
 if (v2.1 == ([99,104,111,111,115,101] : Bytes)) then
  mg v2.2 >>= fun v31 =>
  if v31.2.ok_ then
   je 10 v31.2 >>= fun v34 =>
   some ((T.Op.mk 11 ([] : Bytes) ([] : Bytes) v31.1 false (⟨true,([] : List T.qd)⟩ : (Sl T.qd)) (⟨true,([] : List T.Sel)⟩ : (Sl T.Sel))),(T.qb.mk v34.2.place v34.1))
  else
   some ((T.Op.mk 11 ([] : Bytes) ([] : Bytes) v31.1 false (⟨true,([] : List T.qd)⟩ : (Sl T.qd)) (⟨true,([] : List T.Sel)⟩ : (Sl T.Sel))),(T.qb.mk v31.2.place false))
 else
 if (v2.1 == ([109,111,118,101] : Bytes)) then
  mg v2.2 >>= fun v37 =>
  q4d v37.2 >>= fun v39 =>
  je 49 v39 >>= fun v41 =>
  if v41.2.ok_ then
   if v41.1 then
    je 10 (T.qb.mk v41.2.place true) >>= fun v45 =>
    some ((T.Op.mk 6 ([] : Bytes) ([] : Bytes) v37.1 v41.1 (⟨true,([] : List T.qd)⟩ : (Sl T.qd)) (⟨true,([] : List T.Sel)⟩ : (Sl T.Sel))),(T.qb.mk v45.2.place v45.1))
   else
    je 48 v41.2 >>= fun v47 =>
    if v47.1 then
     je 10 (T.qb.mk v47.2.place v47.1) >>= fun v50 =>
     some ((T.Op.mk 6 ([] : Bytes) ([] : Bytes) v37.1 v41.1 (⟨true,([] : List T.qd)⟩ : (Sl T.qd)) (⟨true,([] : List T.Sel)⟩ : (Sl T.Sel))),(T.qb.mk v50.2.place v50.1))
    else
     some ((T.Op.mk 6 ([] : Bytes) ([] : Bytes) v37.1 v41.1 (⟨true,([] : List T.qd)⟩ : (Sl T.qd)) (⟨true,([] : List T.Sel)⟩ : (Sl T.Sel))),(T.qb.mk v47.2.place false))
  else
   some ((T.Op.mk 6 ([] : Bytes) ([] : Bytes) v37.1 v41.1 (⟨true,([] : List T.qd)⟩ : (Sl T.qd)) (⟨true,([] : List T.Sel)⟩ : (Sl T.Sel))),(T.qb.mk v41.2.place false))
 else
 if (v2.1 == ([101,100,105,116] : Bytes)) then
  q2f (v2.2,(T.Op.mk 0 ([] : Bytes) ([] : Bytes) 0 false (⟨true,([] : List T.qd)⟩ : (Sl T.qd)) (⟨true,([] : List T.Sel)⟩ : (Sl T.Sel))),4,([] : Bytes),([] : Bytes),0,false,(⟨true,([] : List T.Sel)⟩ : Sl T.Sel),([] : List T.qd)) >>= fun v53 =>
  if v53.1.ok_ then
   je 10 v53.1 >>= fun v56 =>
   some ((T.Op.mk 4 ([] : Bytes) ([] : Bytes) 0 false (⟨v53.2.isEmpty,v53.2⟩ : (Sl T.qd)) (⟨true,([] : List T.Sel)⟩ : (Sl T.Sel))),(T.qb.mk v56.2.place v56.1))
  else
   some ((T.Op.mk 4 ([] : Bytes) ([] : Bytes) 0 false (⟨v53.2.isEmpty,v53.2⟩ : (Sl T.qd)) (⟨true,([] : List T.Sel)⟩ : (Sl T.Sel))),(T.qb.mk v53.1.place false))
 else
 if (v2.1 == ([115,101,108,101,99,116] : Bytes)) then
  q2e (v2.2,(T.Op.mk 0 ([] : Bytes) ([] : Bytes) 0 false (⟨true,([] : List T.qd)⟩ : (Sl T.qd)) (⟨true,([] : List T.Sel)⟩ : (Sl T.Sel))),5,([] : Bytes),([] : Bytes),0,false,(⟨true,([] : List T.qd)⟩ : Sl T.qd),([] : List T.Sel)) >>= fun v59 =>
  if v59.1.ok_ then
   je 10 v59.1 >>= fun v62 =>
   some ((T.Op.mk 5 ([] : Bytes) ([] : Bytes) 0 false (⟨true,([] : List T.qd)⟩ : (Sl T.qd)) (⟨v59.2.isEmpty,v59.2⟩ : (Sl T.Sel))),(T.qb.mk v62.2.place v62.1))
  else
   some ((T.Op.mk 5 ([] : Bytes) ([] : Bytes) 0 false (⟨true,([] : List T.qd)⟩ : (Sl T.qd)) (⟨v59.2.isEmpty,v59.2⟩ : (Sl T.Sel))),(T.qb.mk v59.1.place false))
 else
  mh v2.1 >>= fun v64 =>
  if (v2.2.ok_ && (decide (v64 > 0))) then
   je 10 (T.qb.mk v2.2.place (decide (v64 > 0))) >>= fun v68 =>
   some ((T.Op.mk v64 ([] : Bytes) ([] : Bytes) 0 false (⟨true,([] : List T.qd)⟩ : (Sl T.qd)) (⟨true,([] : List T.Sel)⟩ : (Sl T.Sel))),(T.qb.mk v68.2.place v68.1))
  else
   some ((T.Op.mk v64 ([] : Bytes) ([] : Bytes) 0 false (⟨true,([] : List T.qd)⟩ : (Sl T.qd)) (⟨true,([] : List T.Sel)⟩ : (Sl T.Sel))),(T.qb.mk v2.2.place false))
def q0r : ((Sl UInt8) × (Sl Int) × Int × T.qb × (List T.Op)) → Option ((((Sl Int) × (Sl T.Op) × Int × Int × Int × T.qb × (List T.Op)) ⊕ (Int × T.qb × (List T.Op))))
 | (b,nums,line,r_,os) =>
  if (r_.ok_ && (decide (r_.place.at_ < (b.l.length : Int)))) then
   q7c r_ >>= fun v4 =>
   if zt (os.length + 1) 104 = true then
    if v4.2.ok_ then
     if (decide (((os ++ [v4.1]).length : Int) > 1000)) then
      some (.inl ((⟨true,([] : List Int)⟩ : Sl Int),(⟨true,([] : List T.Op)⟩ : Sl T.Op),(IntKind.i64.wrap (line + 1)),7,line,v4.2,(os ++ [v4.1])))
     else
      q0r (b,nums,(IntKind.i64.wrap (line + 1)),v4.2,(os ++ [v4.1]))
    else
     q0r (b,nums,(IntKind.i64.wrap (line + 1)),v4.2,(os ++ [v4.1]))
   else none
  else
   some (.inr (line,r_,os))
 partial_fixpoint
def q3u (b : (Sl UInt8)) : Option (((Sl Int) × (Sl T.Op) × Int × Int)) :=
 if (decide ((b.l.length : Int) > 65536)) then
  some ((⟨true,([] : List Int)⟩ : Sl Int),(⟨true,([] : List T.Op)⟩ : Sl T.Op),0,4)
 else
  q6s (T.qb.mk (T.yh.mk b 0) true) >>= fun v3 =>
  q0r (b,v3.1,1,v3.2,([] : List T.Op)) >>= fun v5 =>
  match v5 with
  | .inl y6 =>
   some (y6.1,y6.2.1,y6.2.2.1,y6.2.2.2.1)
  | .inr y7 =>
   if (!y7.2.1.ok_) then
    some ((⟨true,([] : List Int)⟩ : Sl Int),(⟨true,([] : List T.Op)⟩ : Sl T.Op),y7.1,10)
   else
    some (v3.1,(⟨y7.2.2.isEmpty,y7.2.2⟩ : Sl T.Op),0,0)
def q2v : (Int × Int × Bytes × Int × (List T.Op)) → Option ((Bytes × (List T.Op)))
 | (long,n,s,i,os) =>
  if (decide (i < n)) then
   if zt (os.length + 1) 104 = true then
    if s.length + ([117,110,100,111,10] : Bytes).length ≤ 2 ^ 62 then
     q2v (long,n,(s ++ ([117,110,100,111,10] : Bytes)),(IntKind.i64.wrap (i + 1)),(os ++ [(T.Op.mk 12 ([] : Bytes) ([] : Bytes) 0 false (⟨true,[]⟩ : (Sl T.qd)) (⟨true,[]⟩ : (Sl T.Sel)))]))
    else none
   else none
  else
   some (s,os)
 partial_fixpoint
def q14 : (Int × Bytes) → Option ((Bytes))
 | (long,t) =>
  if (decide ((t.length : Int) < 65536)) then
   if t.length + t.length ≤ 2 ^ 62 then
    q14 (long,(t ++ t))
   else none
  else
   some t
 partial_fixpoint
def q39 : (Int × Bytes × (List UInt8)) → Option ((Bytes))
 | (n,s,r0_) =>
  if (decide (n ≥ 10)) then
   if [(u8 (IntKind.u8.wrap (IntKind.i64.wrap (48 + ((IntKind.i64.wrap (n.tdiv (10 : Int))).tmod 10)))))].length + s.length ≤ 2 ^ 62 then
    q39 ((IntKind.i64.wrap (n.tdiv 10)),([(u8 (IntKind.u8.wrap (IntKind.i64.wrap (48 + ((IntKind.i64.wrap (n.tdiv (10 : Int))).tmod 10)))))] ++ s),r0_)
   else none
  else
   some s
 partial_fixpoint
def q50 (n : Int) : Option ((Bytes)) :=
 q39 (n,[(u8 (IntKind.u8.wrap (IntKind.i64.wrap (48 + (n.tmod 10)))))],[(u8 (IntKind.u8.wrap (IntKind.i64.wrap (48 + (n.tmod 10)))))]) >>= fun v2 =>
 some v2
def q44 (n : Int) : Option ((Bytes)) :=
 if (decide (n < 0)) then
  q50 (IntKind.i64.wrap (0 - n)) >>= fun v3 =>
  if ([45] : Bytes).length + v3.length ≤ 2 ^ 62 then
   some (([45] : Bytes) ++ v3)
  else none
 else
  q50 n >>= fun v6 =>
  some v6
def q7k (many : Int) (long : Int) : Option ((Bool)) :=
 q4h many 4 >>= fun v2 =>
 q2v (long,(IntKind.i64.wrap (999 + v2)),([100,105,99,101,10] : Bytes),0,([] : List T.Op)) >>= fun v4 =>
 q2h (⟨true,([] : List Int)⟩ : Sl Int) (⟨v4.2.isEmpty,v4.2⟩ : Sl T.Op) >>= fun v6 =>
 q3u (⟨false,v4.1⟩ : Sl UInt8) >>= fun v8 =>
 if (decide ((IntKind.i64.wrap (999 + v2)) > 1000)) then
  if ((v6.2 != 7) || (((v6.1.l.length : Int) != 0) || ((v8.2.2.2 != 7) || ((v8.2.2.1 != 1002) || ((v8.2.1.l.length : Int) != 0))))) then
   some false
  else
   q14 (long,([116] : Bytes)) >>= fun v16 =>
   q4h long 4 >>= fun v18 =>
   yn v16 (IntKind.i64.wrap ((IntKind.i64.wrap (65535 + v18)) - 17)) >>= fun r20 =>
   q2h (⟨true,([] : List Int)⟩ : Sl Int) (⟨false,[(T.Op.mk 2 ([] : Bytes) r20 0 false (⟨true,[]⟩ : (Sl T.qd)) (⟨true,[]⟩ : (Sl T.Sel)))]⟩ : Sl T.Op) >>= fun v22 =>
   q44 (r20.length : Int) >>= fun v24 =>
   if ([100,105,99,101,10,116,121,112,101,32] : Bytes).length + v24.length ≤ 2 ^ 62 then
    if (([100,105,99,101,10,116,121,112,101,32] : Bytes) ++ v24).length + ([58] : Bytes).length ≤ 2 ^ 62 then
     if ((([100,105,99,101,10,116,121,112,101,32] : Bytes) ++ v24) ++ ([58] : Bytes)).length + r20.length ≤ 2 ^ 62 then
      if (((([100,105,99,101,10,116,121,112,101,32] : Bytes) ++ v24) ++ ([58] : Bytes)) ++ r20).length + ([10] : Bytes).length ≤ 2 ^ 62 then
       q3u (⟨false,((((([100,105,99,101,10,116,121,112,101,32] : Bytes) ++ v24) ++ ([58] : Bytes)) ++ r20) ++ ([10] : Bytes))⟩ : Sl UInt8) >>= fun v30 =>
       if (decide ((IntKind.i64.wrap (65535 + v18)) > 65536)) then
        if ((v22.2 == 4) && (((v22.1.l.length : Int) == 0) && ((v30.2.2.2 == 4) && (((v30.2.1.l.length : Int) == 0) && (v30.2.2.1 == 0))))) then
         aw7 >>= fun v38 =>
         some v38
        else
         some false
       else
       if ((v22.2 == 0) && (((v22.1.l.length : Int) == (IntKind.i64.wrap (65535 + v18))) && ((v30.2.2.2 == 0) && ((v30.2.1.l.length : Int) == 1)))) then
        aw7 >>= fun v44 =>
        some v44
       else
        some false
      else none
     else none
    else none
   else none
 else
 if (v6.2 != 0) then
  some false
 else
 if ((!(v6.1.l == v4.1)) || ((v8.2.2.2 != 0) || (((v8.2.1.l.length : Int) != (IntKind.i64.wrap (999 + v2))) || (v8.2.2.1 != 0)))) then
  some false
 else
  q14 (long,([116] : Bytes)) >>= fun v51 =>
  q4h long 4 >>= fun v53 =>
  yn v51 (IntKind.i64.wrap ((IntKind.i64.wrap (65535 + v53)) - 17)) >>= fun r55 =>
  q2h (⟨true,([] : List Int)⟩ : Sl Int) (⟨false,[(T.Op.mk 2 ([] : Bytes) r55 0 false (⟨true,[]⟩ : (Sl T.qd)) (⟨true,[]⟩ : (Sl T.Sel)))]⟩ : Sl T.Op) >>= fun v57 =>
  q44 (r55.length : Int) >>= fun v59 =>
  if ([100,105,99,101,10,116,121,112,101,32] : Bytes).length + v59.length ≤ 2 ^ 62 then
   if (([100,105,99,101,10,116,121,112,101,32] : Bytes) ++ v59).length + ([58] : Bytes).length ≤ 2 ^ 62 then
    if ((([100,105,99,101,10,116,121,112,101,32] : Bytes) ++ v59) ++ ([58] : Bytes)).length + r55.length ≤ 2 ^ 62 then
     if (((([100,105,99,101,10,116,121,112,101,32] : Bytes) ++ v59) ++ ([58] : Bytes)) ++ r55).length + ([10] : Bytes).length ≤ 2 ^ 62 then
      q3u (⟨false,((((([100,105,99,101,10,116,121,112,101,32] : Bytes) ++ v59) ++ ([58] : Bytes)) ++ r55) ++ ([10] : Bytes))⟩ : Sl UInt8) >>= fun v65 =>
      if (decide ((IntKind.i64.wrap (65535 + v53)) > 65536)) then
       if ((v57.2 == 4) && (((v57.1.l.length : Int) == 0) && ((v65.2.2.2 == 4) && (((v65.2.1.l.length : Int) == 0) && (v65.2.2.1 == 0))))) then
        aw7 >>= fun v73 =>
        some v73
       else
        some false
      else
      if ((v57.2 == 0) && (((v57.1.l.length : Int) == (IntKind.i64.wrap (65535 + v53))) && ((v65.2.2.2 == 0) && ((v65.2.1.l.length : Int) == 1)))) then
       aw7 >>= fun v79 =>
       some v79
      else
       some false
     else none
    else none
   else none
  else none
end Go.Proofs.YtaglodpkpggdiaaGreatDoor
