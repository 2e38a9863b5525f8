/-
  The functions as plain Lean functions.
-/
import Derived.Test.YthikhbpbpphaaaaGreatDoorRag
set_option linter.unusedSimpArgs false
set_option linter.unusedVariables false
set_option maxRecDepth 100000
namespace Go.Proofs.YthikhbpbpphaaaaGreatDoor
open Go Go.Gm
def q0o : (Int × T.qb) → Option ((T.qb))
 | (frm,p_) =>
  if (decide (p_.place.at_ < (p_.place.b.l.length : Int))) then
   za p_.place.b.l p_.place.at_ >>= fun x3 =>
   if (decide ((x3.toNat : Int) ≥ 97)) then
    if (decide ((x3.toNat : Int) ≤ 122)) then
     q0o (frm,(T.qb.mk (T.kz.mk p_.place.b (IntKind.i64.wrap (p_.place.at_ + 1))) p_.ok_))
    else
     some p_
   else
    some p_
  else
   some p_
 partial_fixpoint
def q4o (b : T.qb) : Option ((Bytes × T.qb)) :=
 q0o (b.place.at_,b) >>= fun v2 =>
 xk v2.place.b.l b.place.at_ v2.place.at_ >>= fun r4 =>
 some (r4,v2)
def q39 (b : T.qb) : Option ((Bool)) :=
 if (b.ok_ && (decide (b.place.at_ < (b.place.b.l.length : Int)))) then
  za b.place.b.l b.place.at_ >>= fun x4 =>
  some ((x4.toNat : Int) == 32)
 else
  some false
def ja (c : UInt8) (b : T.qb) : Option ((Bool × T.qb)) :=
 if (decide (b.place.at_ ≥ (b.place.b.l.length : Int))) then
  some (false,b)
 else
  za b.place.b.l b.place.at_ >>= fun x3 =>
  if ((x3.toNat : Int) != (c.toNat : Int)) then
   some (false,b)
  else
   some (true,(T.qb.mk (T.kz.mk b.place.b (IntKind.i64.wrap (b.place.at_ + 1))) b.ok_))
def q3e (b : T.qb) : Option ((T.qb)) :=
 if b.ok_ then
  ja 32 b >>= fun v3 =>
  some (T.qb.mk v3.2.place v3.1)
 else
  some (T.qb.mk b.place false)
def q0e : (Bool × Int × Int × T.qb) → Option (((Int × Bool × Int × T.qb) ⊕ (Int × T.qb)))
 | (below,frm,n,p_) =>
  if (decide (p_.place.at_ < (p_.place.b.l.length : Int))) then
   za p_.place.b.l p_.place.at_ >>= fun x3 =>
   if (decide ((x3.toNat : Int) ≥ 48)) then
    if (decide ((x3.toNat : Int) ≤ 57)) then
     if ((IntKind.i64.wrap (p_.place.at_ - frm)) == 18) then
      some (.inl (0,false,n,p_))
     else
      q0e (below,frm,(IntKind.i64.wrap ((IntKind.i64.wrap (10 * n)) + (IntKind.i64.wrap (IntKind.u8.wrap ((x3.toNat : Int) - 48))))),(T.qb.mk (T.kz.mk p_.place.b (IntKind.i64.wrap (p_.place.at_ + 1))) p_.ok_))
    else
     some (.inr (n,p_))
   else
    some (.inr (n,p_))
  else
   some (.inr (n,p_))
 partial_fixpoint
def q3f (b : T.qb) : Option ((Int × Bool × T.qb)) :=
 ja 45 b >>= fun v2 =>
 q0e (v2.1,v2.2.place.at_,0,v2.2) >>= fun v4 =>
 match v4 with
 | .inl y5 =>
  some (y5.1,y5.2.1,y5.2.2.2)
 | .inr y6 =>
  if (y6.2.place.at_ == v2.2.place.at_) then
   some (0,false,y6.2)
  else
   za y6.2.place.b.l v2.2.place.at_ >>= fun x9 =>
   if ((x9.toNat : Int) == 48) then
    if (v2.1 || (decide ((IntKind.i64.wrap (y6.2.place.at_ - v2.2.place.at_)) > 1))) then
     some (0,false,y6.2)
    else
     some (y6.1,true,y6.2)
   else
   if v2.1 then
    some ((IntKind.i64.wrap (0 - y6.1)),true,y6.2)
   else
    some (y6.1,true,y6.2)
def um (b : T.qb) : Option ((Int × T.qb)) :=
 q3e b >>= fun v2 =>
 q3f v2 >>= fun v4 =>
 if v4.2.2.ok_ then
  some (v4.1,(T.qb.mk v4.2.2.place v4.2.1))
 else
  some (v4.1,(T.qb.mk v4.2.2.place false))
def pg : (T.qb × (List Int)) → Option ((T.qb × (List Int)))
 | (r_,nums) =>
  q39 r_ >>= fun v2 =>
  if v2 then
   um r_ >>= fun v5 =>
   if (v5.2.ok_ && (decide (v5.1 ≥ 0))) then
    if zo (nums.length + 1) 4 = true then
     pg ((T.qb.mk v5.2.place (decide (v5.1 < 4294967296))),(nums ++ [(IntKind.u32.wrap v5.1)]))
    else none
   else
    if zo (nums.length + 1) 4 = true then
     pg ((T.qb.mk v5.2.place false),(nums ++ [(IntKind.u32.wrap v5.1)]))
    else none
  else
   some (r_,nums)
 partial_fixpoint
def q5u (b : T.qb) : Option (((Sl Int) × T.qb)) :=
 q4o b >>= fun v2 =>
 pg ((T.qb.mk v2.2.place (v2.1 == ([100,105,99,101] : Bytes))),([] : List Int)) >>= fun v4 =>
 if v4.1.ok_ then
  ja 10 v4.1 >>= fun v7 =>
  some ((⟨v4.2.isEmpty,v4.2⟩ : Sl Int),(T.qb.mk v7.2.place v7.1))
 else
  some ((⟨v4.2.isEmpty,v4.2⟩ : Sl Int),(T.qb.mk v4.1.place false))
def q4n (b : T.qb) : Option ((Bytes × Bool × T.qb)) :=
 q3f b >>= fun v2 =>
 if (!v2.2.1) then
  some (([] : Bytes),false,v2.2.2)
 else
  ja 58 v2.2.2 >>= fun v5 =>
  if ((!v5.1) || ((decide (v2.1 < 0)) || (decide (v2.1 > (IntKind.i64.wrap ((v5.2.place.b.l.length : Int) - v5.2.place.at_)))))) then
   some (([] : Bytes),false,v5.2)
  else
   xk v5.2.place.b.l (IntKind.i64.wrap ((IntKind.i64.wrap (v5.2.place.at_ + v2.1)) - v2.1)) (IntKind.i64.wrap (v5.2.place.at_ + v2.1)) >>= fun r10 =>
   some (r10,true,(T.qb.mk (T.kz.mk v5.2.place.b (IntKind.i64.wrap (v5.2.place.at_ + v2.1))) v5.2.ok_))
def q0j (b : T.qb) : Option ((Bytes × T.qb)) :=
 q3e b >>= fun v2 =>
 q4n v2 >>= fun v4 =>
 if v4.2.2.ok_ then
  some (v4.1,(T.qb.mk v4.2.2.place v4.2.1))
 else
  some (v4.1,(T.qb.mk v4.2.2.place false))
def q15 : (T.qb × T.Op × Int × Bytes × Bytes × Int × Bool × (Sl T.Sel) × (List T.q9)) → Option ((T.qb × (List T.q9)))
 | (r_,t2,o,o2,o3,o4,o5,o6,r3_) =>
  q39 r_ >>= fun v2 =>
  if v2 then
   um r_ >>= fun v5 =>
   um v5.2 >>= fun v7 =>
   q0j v7.2 >>= fun v9 =>
   if zo (r3_.length + 1) 32 = true then
    q15 (v9.2,t2,o,o2,o3,o4,o5,o6,(r3_ ++ [(T.q9.mk (T.Span.mk v5.1 v7.1) v9.1)]))
   else none
  else
   some (r_,r3_)
 partial_fixpoint
def q13 : (T.qb × T.Op × Int × Bytes × Bytes × Int × Bool × (Sl T.q9) × (List T.Sel)) → Option ((T.qb × (List T.Sel)))
 | (r_,t2,o,o2,o3,o4,o5,o6,r3_) =>
  q39 r_ >>= fun v2 =>
  if v2 then
   um r_ >>= fun v5 =>
   um v5.2 >>= fun v7 =>
   if zo (r3_.length + 1) 16 = true then
    q13 (v7.2,t2,o,o2,o3,o4,o5,o6,(r3_ ++ [(T.Sel.mk v5.1 v7.1)]))
   else none
  else
   some (r_,r3_)
 partial_fixpoint
def q4t (word : Bytes) : Option ((Int)) :=
 if (word == ([110,101,120,116] : Bytes)) then
  some 8
 else
 if (word == ([112,114,101,118] : Bytes)) then
  some 9
 else
 if (word == ([108,101,97,118,101] : Bytes)) then
  some 10
 else
 if (word == ([117,110,100,111] : Bytes)) then
  some 12
 else
 if (word == ([114,101,100,111] : Bytes)) then
  some 13
 else
  some 0
def q56 (b : T.qb) : Option ((T.Op × T.qb)) :=
 q4o b >>= fun v2 =>
 if (v2.1 == ([115,101,116] : Bytes)) then
  q0j v2.2 >>= fun v5 =>
  q0j v5.2 >>= fun v7 =>
  if v7.2.ok_ then
   ja 10 v7.2 >>= fun v10 =>
   some ((T.Op.mk 1 v5.1 v7.1 0 false (⟨true,([] : List T.q9)⟩ : (Sl T.q9)) (⟨true,([] : List T.Sel)⟩ : (Sl T.Sel))),(T.qb.mk v10.2.place v10.1))
  else
   some ((T.Op.mk 1 v5.1 v7.1 0 false (⟨true,([] : List T.q9)⟩ : (Sl T.q9)) (⟨true,([] : List T.Sel)⟩ : (Sl T.Sel))),(T.qb.mk v7.2.place false))
 else
 if (v2.1 == ([116,121,112,101] : Bytes)) then
  q0j v2.2 >>= fun v13 =>
  if v13.2.ok_ then
   ja 10 v13.2 >>= fun v16 =>
   some ((T.Op.mk 2 ([] : Bytes) v13.1 0 false (⟨true,([] : List T.q9)⟩ : (Sl T.q9)) (⟨true,([] : List T.Sel)⟩ : (Sl T.Sel))),(T.qb.mk v16.2.place v16.1))
  else
   some ((T.Op.mk 2 ([] : Bytes) v13.1 0 false (⟨true,([] : List T.q9)⟩ : (Sl T.q9)) (⟨true,([] : List T.Sel)⟩ : (Sl T.Sel))),(T.qb.mk v13.2.place false))
 else
 if (v2.1 == ([105,110,115,101,114,116] : Bytes)) then
  q0j v2.2 >>= fun v19 =>
  if v19.2.ok_ then
   ja 10 v19.2 >>= fun v22 =>
   some ((T.Op.mk 7 ([] : Bytes) v19.1 0 false (⟨true,([] : List T.q9)⟩ : (Sl T.q9)) (⟨true,([] : List T.Sel)⟩ : (Sl T.Sel))),(T.qb.mk v22.2.place v22.1))
  else
   some ((T.Op.mk 7 ([] : Bytes) v19.1 0 false (⟨true,([] : List T.q9)⟩ : (Sl T.q9)) (⟨true,([] : List T.Sel)⟩ : (Sl T.Sel))),(T.qb.mk v19.2.place false))
 else
 if (v2.1 == ([101,114,97,115,101] : Bytes)) then
  um v2.2 >>= fun v25 =>
  if v25.2.ok_ then
   ja 10 v25.2 >>= fun v28 =>
   some ((T.Op.mk 3 ([] : Bytes) ([] : Bytes) v25.1 false (⟨true,([] : List T.q9)⟩ : (Sl T.q9)) (⟨true,([] : List T.Sel)⟩ : (Sl T.Sel))),(T.qb.mk v28.2.place v28.1))
  else
   some ((T.Op.mk 3 ([] : Bytes) ([] : Bytes) v25.1 false (⟨true,([] : List T.q9)⟩ : (Sl T.q9)) (⟨true,([] : List T.Sel)⟩ : (Sl T.Sel))),(T.qb.mk v25.2.place false))
 else
 if (v2.1 == ([99,104,111,111,115,101] : Bytes)) then
  um v2.2 >>= fun v31 =>
  if v31.2.ok_ then
   ja 10 v31.2 >>= fun v34 =>
   some ((T.Op.mk 11 ([] : Bytes) ([] : Bytes) v31.1 false (⟨true,([] : List T.q9)⟩ : (Sl T.q9)) (⟨true,([] : List T.Sel)⟩ : (Sl T.Sel))),(T.qb.mk v34.2.place v34.1))
  else
   some ((T.Op.mk 11 ([] : Bytes) ([] : Bytes) v31.1 false (⟨true,([] : List T.q9)⟩ : (Sl T.q9)) (⟨true,([] : List T.Sel)⟩ : (Sl T.Sel))),(T.qb.mk v31.2.place false))
 else
 if (v2.1 == ([109,111,118,101] : Bytes)) then
  um v2.2 >>= fun v37 =>
  q3e v37.2 >>= fun v39 =>
  ja 49 v39 >>= fun v41 =>
  if v41.2.ok_ then
   if v41.1 then
    ja 10 (T.qb.mk v41.2.place true) >>= fun v45 =>
    some ((T.Op.mk 6 ([] : Bytes) ([] : Bytes) v37.1 v41.1 (⟨true,([] : List T.q9)⟩ : (Sl T.q9)) (⟨true,([] : List T.Sel)⟩ : (Sl T.Sel))),(T.qb.mk v45.2.place v45.1))
   else
    ja 48 v41.2 >>= fun v47 =>
    if v47.1 then
     ja 10 (T.qb.mk v47.2.place v47.1) >>= fun v50 =>
     some ((T.Op.mk 6 ([] : Bytes) ([] : Bytes) v37.1 v41.1 (⟨true,([] : List T.q9)⟩ : (Sl T.q9)) (⟨true,([] : List T.Sel)⟩ : (Sl T.Sel))),(T.qb.mk v50.2.place v50.1))
    else
     some ((T.Op.mk 6 ([] : Bytes) ([] : Bytes) v37.1 v41.1 (⟨true,([] : List T.q9)⟩ : (Sl T.q9)) (⟨true,([] : List T.Sel)⟩ : (Sl T.Sel))),(T.qb.mk v47.2.place false))
  else
   some ((T.Op.mk 6 ([] : Bytes) ([] : Bytes) v37.1 v41.1 (⟨true,([] : List T.q9)⟩ : (Sl T.q9)) (⟨true,([] : List T.Sel)⟩ : (Sl T.Sel))),(T.qb.mk v41.2.place false))
 else
 if (v2.1 == ([101,100,105,116] : Bytes)) then
  q15 (v2.2,(T.Op.mk 0 ([] : Bytes) ([] : Bytes) 0 false (⟨true,([] : List T.q9)⟩ : (Sl T.q9)) (⟨true,([] : List T.Sel)⟩ : (Sl T.Sel))),4,([] : Bytes),([] : Bytes),0,false,(⟨true,([] : List T.Sel)⟩ : Sl T.Sel),([] : List T.q9)) >>= fun v53 =>
  if v53.1.ok_ then
   ja 10 v53.1 >>= fun v56 =>
   some ((T.Op.mk 4 ([] : Bytes) ([] : Bytes) 0 false (⟨v53.2.isEmpty,v53.2⟩ : (Sl T.q9)) (⟨true,([] : List T.Sel)⟩ : (Sl T.Sel))),(T.qb.mk v56.2.place v56.1))
  else
   some ((T.Op.mk 4 ([] : Bytes) ([] : Bytes) 0 false (⟨v53.2.isEmpty,v53.2⟩ : (Sl T.q9)) (⟨true,([] : List T.Sel)⟩ : (Sl T.Sel))),(T.qb.mk v53.1.place false))
 else
 if (v2.1 == ([115,101,108,101,99,116] : Bytes)) then
  q13 (v2.2,(T.Op.mk 0 ([] : Bytes) ([] : Bytes) 0 false (⟨true,([] : List T.q9)⟩ : (Sl T.q9)) (⟨true,([] : List T.Sel)⟩ : (Sl T.Sel))),5,([] : Bytes),([] : Bytes),0,false,(⟨true,([] : List T.q9)⟩ : Sl T.q9),([] : List T.Sel)) >>= fun v59 =>
  if v59.1.ok_ then
   ja 10 v59.1 >>= fun v62 =>
   some ((T.Op.mk 5 ([] : Bytes) ([] : Bytes) 0 false (⟨true,([] : List T.q9)⟩ : (Sl T.q9)) (⟨v59.2.isEmpty,v59.2⟩ : (Sl T.Sel))),(T.qb.mk v62.2.place v62.1))
  else
   some ((T.Op.mk 5 ([] : Bytes) ([] : Bytes) 0 false (⟨true,([] : List T.q9)⟩ : (Sl T.q9)) (⟨v59.2.isEmpty,v59.2⟩ : (Sl T.Sel))),(T.qb.mk v59.1.place false))
 else
  q4t v2.1 >>= fun v64 =>
  if (v2.2.ok_ && (decide (v64 > 0))) then
   ja 10 (T.qb.mk v2.2.place (decide (v64 > 0))) >>= fun v68 =>
   some ((T.Op.mk v64 ([] : Bytes) ([] : Bytes) 0 false (⟨true,([] : List T.q9)⟩ : (Sl T.q9)) (⟨true,([] : List T.Sel)⟩ : (Sl T.Sel))),(T.qb.mk v68.2.place v68.1))
  else
   some ((T.Op.mk v64 ([] : Bytes) ([] : Bytes) 0 false (⟨true,([] : List T.q9)⟩ : (Sl T.q9)) (⟨true,([] : List T.Sel)⟩ : (Sl T.Sel))),(T.qb.mk v2.2.place false))
def q08 : ((Sl UInt8) × (Sl Int) × Int × T.qb × (List T.Op)) → Option ((((Sl Int) × (Sl T.Op) × Int × Int × Int × T.qb × (List T.Op)) ⊕ (Int × T.qb × (List T.Op))))
 | (b,nums,line,r_,os) =>
  if (r_.ok_ && (decide (r_.place.at_ < (b.l.length : Int)))) then
   q56 r_ >>= fun v4 =>
   if zo (os.length + 1) 104 = true then
    if v4.2.ok_ then
     if (decide (((os ++ [v4.1]).length : Int) > 1000)) then
      some (.inl ((⟨true,([] : List Int)⟩ : Sl Int),(⟨true,([] : List T.Op)⟩ : Sl T.Op),(IntKind.i64.wrap (line + 1)),7,line,v4.2,(os ++ [v4.1])))
     else
      q08 (b,nums,(IntKind.i64.wrap (line + 1)),v4.2,(os ++ [v4.1]))
    else
     q08 (b,nums,(IntKind.i64.wrap (line + 1)),v4.2,(os ++ [v4.1]))
   else none
  else
   some (.inr (line,r_,os))
 partial_fixpoint
def q59 (b : (Sl UInt8)) : Option (((Sl Int) × (Sl T.Op) × Int × Int)) :=
 if (decide ((b.l.length : Int) > 65536)) then
  some ((⟨true,([] : List Int)⟩ : Sl Int),(⟨true,([] : List T.Op)⟩ : Sl T.Op),0,4)
 else
  q5u (T.qb.mk (T.kz.mk b 0) true) >>= fun v3 =>
  q08 (b,v3.1,1,v3.2,([] : List T.Op)) >>= fun v5 =>
  match v5 with
  | .inl y6 =>
   some (y6.1,y6.2.1,y6.2.2.1,y6.2.2.2.1)
  | .inr y7 =>
   if (!y7.2.1.ok_) then
    some ((⟨true,([] : List Int)⟩ : Sl Int),(⟨true,([] : List T.Op)⟩ : Sl T.Op),y7.1,10)
   else
    some (v3.1,(⟨y7.2.2.isEmpty,y7.2.2⟩ : Sl T.Op),0,0)
def q1c : (Int × T.qf) → Option ((T.qf))
 | (frm,r_) =>
  if (decide (r_.at_ < (r_.b.l.length : Int))) then
   za r_.b.l r_.at_ >>= fun x3 =>
   if (decide ((x3.toNat : Int) ≥ 97)) then
    if (decide ((x3.toNat : Int) ≤ 122)) then
     q1c (frm,(T.qf.mk r_.b (IntKind.i64.wrap (r_.at_ + 1))))
    else
     some r_
   else
    some r_
  else
   some r_
 partial_fixpoint
def q43 (b : T.qf) : Option ((Bytes × T.qf)) :=
 q1c (b.at_,b) >>= fun v2 =>
 xk v2.b.l b.at_ v2.at_ >>= fun r4 =>
 some (r4,v2)
def q2y (b : T.qf) : Option ((Bool)) :=
 if (decide (b.at_ < (b.b.l.length : Int))) then
  za b.b.l b.at_ >>= fun x3 =>
  some ((x3.toNat : Int) == 32)
 else
  some false
def q1w (c : UInt8) (b : T.qf) : Option ((Bool × T.qf)) :=
 if (decide (b.at_ ≥ (b.b.l.length : Int))) then
  some (false,b)
 else
  za b.b.l b.at_ >>= fun x3 =>
  if ((x3.toNat : Int) != (c.toNat : Int)) then
   some (false,b)
  else
   some (true,(T.qf.mk b.b (IntKind.i64.wrap (b.at_ + 1))))
def q51 (c : UInt8) : Option ((Bool)) :=
 if (decide ((c.toNat : Int) ≥ 48)) then
  some (decide ((c.toNat : Int) ≤ 57))
 else
  some false
def uy : (Bool × Int × Int × T.qf) → Option ((Int × T.qf))
 | (below,frm,n,r_) =>
  if ((decide (r_.at_ < (r_.b.l.length : Int))) && (decide (r_.at_ < (IntKind.i64.wrap (frm + 18))))) then
   za r_.b.l r_.at_ >>= fun x4 =>
   q51 x4 >>= fun v6 =>
   if v6 then
    uy (below,frm,(IntKind.i64.wrap ((IntKind.i64.wrap (n * 10)) + (IntKind.i64.wrap (IntKind.u8.wrap ((x4.toNat : Int) - 48))))),(T.qf.mk r_.b (IntKind.i64.wrap (r_.at_ + 1))))
   else
    some (n,r_)
  else
   some (n,r_)
 partial_fixpoint
def q47 (b : T.qf) : Option ((Int × Bool × T.qf)) :=
 if (decide (b.at_ < (b.b.l.length : Int))) then
  za b.b.l b.at_ >>= fun x3 =>
  if ((x3.toNat : Int) == 45) then
   uy (((x3.toNat : Int) == 45),(IntKind.i64.wrap (b.at_ + 1)),0,(T.qf.mk b.b (IntKind.i64.wrap (b.at_ + 1)))) >>= fun v6 =>
   if (v6.2.at_ == (IntKind.i64.wrap (b.at_ + 1))) then
    some (0,false,v6.2)
   else
    za v6.2.b.l (IntKind.i64.wrap (b.at_ + 1)) >>= fun x9 =>
    if ((x9.toNat : Int) == 48) then
     some (0,false,v6.2)
    else
     some ((IntKind.i64.wrap (0 - v6.1)),true,v6.2)
  else
   uy (((x3.toNat : Int) == 45),b.at_,0,b) >>= fun v12 =>
   if (v12.2.at_ == b.at_) then
    some (0,false,v12.2)
   else
    za v12.2.b.l b.at_ >>= fun x15 =>
    if (((x15.toNat : Int) == 48) && (decide (v12.2.at_ > (IntKind.i64.wrap (b.at_ + 1))))) then
     some (0,false,v12.2)
    else
     some (v12.1,true,v12.2)
 else
  uy (false,b.at_,0,b) >>= fun v19 =>
  if (v19.2.at_ == b.at_) then
   some (0,false,v19.2)
  else
   za v19.2.b.l b.at_ >>= fun x22 =>
   if (((x22.toNat : Int) == 48) && (decide (v19.2.at_ > (IntKind.i64.wrap (b.at_ + 1))))) then
    some (0,false,v19.2)
   else
    some (v19.1,true,v19.2)
def wh (b : T.qf) : Option ((Int × Bool × T.qf)) :=
 q1w 32 b >>= fun v2 =>
 if (!v2.1) then
  some (0,false,v2.2)
 else
  q47 v2.2 >>= fun v5 =>
  some (v5.1,v5.2.1,v5.2.2)
def q0d : (T.qf × (List Int)) → Option ((((Sl Int) × Bool × T.qf × (List Int)) ⊕ (T.qf × (List Int))))
 | (r_,nums) =>
  q2y r_ >>= fun v2 =>
  if v2 then
   wh r_ >>= fun v5 =>
   if ((!v5.2.1) || ((decide (v5.1 < 0)) || (decide (v5.1 > 4294967295)))) then
    some (.inl ((⟨true,([] : List Int)⟩ : Sl Int),false,v5.2.2,nums))
   else
    if zo (nums.length + 1) 4 = true then
     q0d (v5.2.2,(nums ++ [(IntKind.u32.wrap v5.1)]))
    else none
  else
   some (.inr (r_,nums))
 partial_fixpoint
def q44 (b : T.qf) : Option (((Sl Int) × Bool × T.qf)) :=
 q43 b >>= fun v2 =>
 if (!(v2.1 == ([100,105,99,101] : Bytes))) then
  some ((⟨true,([] : List Int)⟩ : Sl Int),false,v2.2)
 else
  q0d (v2.2,([] : List Int)) >>= fun v5 =>
  match v5 with
  | .inl y6 =>
   some (y6.1,y6.2.1,y6.2.2.1)
  | .inr y7 =>
   some ((⟨y7.2.isEmpty,y7.2⟩ : Sl Int),true,y7.1)
def q6h : Option (((Sl Bytes))) :=
 some (⟨false,[([] : Bytes),([115,101,116] : Bytes),([116,121,112,101] : Bytes),([101,114,97,115,101] : Bytes),([101,100,105,116] : Bytes),([115,101,108,101,99,116] : Bytes),([109,111,118,101] : Bytes),([105,110,115,101,114,116] : Bytes),([110,101,120,116] : Bytes),([112,114,101,118] : Bytes),([108,101,97,118,101] : Bytes),([99,104,111,111,115,101] : Bytes),([117,110,100,111] : Bytes),([114,101,100,111] : Bytes)]⟩ : Sl Bytes)
def q0f : (Bytes × (Sl Bytes) × Int) → Option (((Int) ⊕ (Unit)))
 | (word,l,k) =>
  if (decide (k < (l.l.length : Int))) then
   za l.l k >>= fun x3 =>
   if (x3 == word) then
    some (.inl k)
   else
    q0f (word,l,(IntKind.i64.wrap (k + 1)))
  else
   some (.inr ())
 partial_fixpoint
def q5h (word : Bytes) : Option ((Int)) :=
 q6h >>= fun v2 =>
 q0f (word,v2,1) >>= fun v4 =>
 match v4 with
 | .inl y5 =>
  some y5
 | .inr y6 =>
  some 0
def q0x (b : T.qf) : Option ((Bytes × Bool × T.qf)) :=
 wh b >>= fun v2 =>
 if ((!v2.2.1) || (decide (v2.1 < 0))) then
  some (([] : Bytes),false,v2.2.2)
 else
  q1w 58 v2.2.2 >>= fun v6 =>
  if ((!v6.1) || (decide (v2.1 > (IntKind.i64.wrap ((v6.2.b.l.length : Int) - v6.2.at_))))) then
   some (([] : Bytes),false,v6.2)
  else
   xk v6.2.b.l v6.2.at_ (IntKind.i64.wrap (v6.2.at_ + v2.1)) >>= fun r10 =>
   some (r10,true,(T.qf.mk v6.2.b (IntKind.i64.wrap (v6.2.at_ + v2.1))))
def gp : (Bool × T.qf × T.Op × Int × Bytes × Bytes × Int × Bool × (Sl T.Sel) × (List T.q9)) → Option ((Bool × T.qf × (List T.q9)))
 | (ok_,r_,t2,o,o2,o3,o4,o5,o6,r3_) =>
  if ok_ then
   q2y r_ >>= fun v3 =>
   if v3 then
    wh r_ >>= fun v6 =>
    if v6.2.1 then
     wh v6.2.2 >>= fun v9 =>
     if v9.2.1 then
      q0x v9.2.2 >>= fun v12 =>
      if zo (r3_.length + 1) 32 = true then
       gp (v12.2.1,v12.2.2,t2,o,o2,o3,o4,o5,o6,(r3_ ++ [(T.q9.mk (T.Span.mk v6.1 v9.1) v12.1)]))
      else none
     else
      if zo (r3_.length + 1) 32 = true then
       gp (v9.2.1,v9.2.2,t2,o,o2,o3,o4,o5,o6,(r3_ ++ [(T.q9.mk (T.Span.mk v6.1 v9.1) ([] : Bytes))]))
      else none
    else
     if zo (r3_.length + 1) 32 = true then
      gp (v6.2.1,v6.2.2,t2,o,o2,o3,o4,o5,o6,(r3_ ++ [(T.q9.mk (T.Span.mk v6.1 0) ([] : Bytes))]))
     else none
   else
    some (ok_,r_,r3_)
  else
   some (ok_,r_,r3_)
 partial_fixpoint
def gz : (Bool × T.qf × T.Op × Int × Bytes × Bytes × Int × Bool × (Sl T.q9) × (List T.Sel)) → Option ((Bool × T.qf × (List T.Sel)))
 | (ok_,r_,t2,o,o2,o3,o4,o5,o6,r3_) =>
  if ok_ then
   q2y r_ >>= fun v3 =>
   if v3 then
    wh r_ >>= fun v6 =>
    if v6.2.1 then
     wh v6.2.2 >>= fun v9 =>
     if zo (r3_.length + 1) 16 = true then
      gz (v9.2.1,v9.2.2,t2,o,o2,o3,o4,o5,o6,(r3_ ++ [(T.Sel.mk v6.1 v9.1)]))
     else none
    else
     if zo (r3_.length + 1) 16 = true then
      gz (v6.2.1,v6.2.2,t2,o,o2,o3,o4,o5,o6,(r3_ ++ [(T.Sel.mk v6.1 0)]))
     else none
   else
    some (ok_,r_,r3_)
  else
   some (ok_,r_,r3_)
 partial_fixpoint
def q5k (b : T.qf) : Option ((T.Op × Bool × T.qf)) :=
 q43 b >>= fun v2 =>
 q5h v2.1 >>= fun v4 =>
 if (v4 == 1) then
  q0x v2.2 >>= fun v7 =>
  if v7.2.1 then
   q0x v7.2.2 >>= fun v10 =>
   if v10.2.1 then
    some ((T.Op.mk v4 v7.1 v10.1 0 false (⟨true,([] : List T.q9)⟩ : (Sl T.q9)) (⟨true,([] : List T.Sel)⟩ : (Sl T.Sel))),(decide (v4 > 0)),v10.2.2)
   else
    some ((T.Op.mk v4 v7.1 v10.1 0 false (⟨true,([] : List T.q9)⟩ : (Sl T.q9)) (⟨true,([] : List T.Sel)⟩ : (Sl T.Sel))),false,v10.2.2)
  else
   some ((T.Op.mk v4 v7.1 ([] : Bytes) 0 false (⟨true,([] : List T.q9)⟩ : (Sl T.q9)) (⟨true,([] : List T.Sel)⟩ : (Sl T.Sel))),false,v7.2.2)
 else
 if ((v4 == 2) || (v4 == 7)) then
  q0x v2.2 >>= fun v14 =>
  if v14.2.1 then
   some ((T.Op.mk v4 ([] : Bytes) v14.1 0 false (⟨true,([] : List T.q9)⟩ : (Sl T.q9)) (⟨true,([] : List T.Sel)⟩ : (Sl T.Sel))),(decide (v4 > 0)),v14.2.2)
  else
   some ((T.Op.mk v4 ([] : Bytes) v14.1 0 false (⟨true,([] : List T.q9)⟩ : (Sl T.q9)) (⟨true,([] : List T.Sel)⟩ : (Sl T.Sel))),false,v14.2.2)
 else
 if ((v4 == 3) || (v4 == 11)) then
  wh v2.2 >>= fun v22 =>
  if v22.2.1 then
   some ((T.Op.mk v4 ([] : Bytes) ([] : Bytes) v22.1 false (⟨true,([] : List T.q9)⟩ : (Sl T.q9)) (⟨true,([] : List T.Sel)⟩ : (Sl T.Sel))),(decide (v4 > 0)),v22.2.2)
  else
   some ((T.Op.mk v4 ([] : Bytes) ([] : Bytes) v22.1 false (⟨true,([] : List T.q9)⟩ : (Sl T.q9)) (⟨true,([] : List T.Sel)⟩ : (Sl T.Sel))),false,v22.2.2)
 else
 if (v4 == 6) then
  wh v2.2 >>= fun v30 =>
  if v30.2.1 then
   wh v30.2.2 >>= fun v33 =>
   if (v33.2.1 && ((v33.1 == 0) || (v33.1 == 1))) then
    some ((T.Op.mk v4 ([] : Bytes) ([] : Bytes) v30.1 (v33.1 == 1) (⟨true,([] : List T.q9)⟩ : (Sl T.q9)) (⟨true,([] : List T.Sel)⟩ : (Sl T.Sel))),(decide (v4 > 0)),v33.2.2)
   else
    some ((T.Op.mk v4 ([] : Bytes) ([] : Bytes) v30.1 (v33.1 == 1) (⟨true,([] : List T.q9)⟩ : (Sl T.q9)) (⟨true,([] : List T.Sel)⟩ : (Sl T.Sel))),false,v33.2.2)
  else
   some ((T.Op.mk v4 ([] : Bytes) ([] : Bytes) v30.1 false (⟨true,([] : List T.q9)⟩ : (Sl T.q9)) (⟨true,([] : List T.Sel)⟩ : (Sl T.Sel))),false,v30.2.2)
 else
 if (v4 == 4) then
  gp (true,v2.2,(T.Op.mk 0 ([] : Bytes) ([] : Bytes) 0 false (⟨true,([] : List T.q9)⟩ : (Sl T.q9)) (⟨true,([] : List T.Sel)⟩ : (Sl T.Sel))),v4,([] : Bytes),([] : Bytes),0,false,(⟨true,([] : List T.Sel)⟩ : Sl T.Sel),([] : List T.q9)) >>= fun v39 =>
  if v39.1 then
   some ((T.Op.mk v4 ([] : Bytes) ([] : Bytes) 0 false (⟨v39.2.2.isEmpty,v39.2.2⟩ : (Sl T.q9)) (⟨true,([] : List T.Sel)⟩ : (Sl T.Sel))),(decide (v4 > 0)),v39.2.1)
  else
   some ((T.Op.mk v4 ([] : Bytes) ([] : Bytes) 0 false (⟨v39.2.2.isEmpty,v39.2.2⟩ : (Sl T.q9)) (⟨true,([] : List T.Sel)⟩ : (Sl T.Sel))),false,v39.2.1)
 else
 if (v4 == 5) then
  gz (true,v2.2,(T.Op.mk 0 ([] : Bytes) ([] : Bytes) 0 false (⟨true,([] : List T.q9)⟩ : (Sl T.q9)) (⟨true,([] : List T.Sel)⟩ : (Sl T.Sel))),v4,([] : Bytes),([] : Bytes),0,false,(⟨true,([] : List T.q9)⟩ : Sl T.q9),([] : List T.Sel)) >>= fun v43 =>
  if v43.1 then
   some ((T.Op.mk v4 ([] : Bytes) ([] : Bytes) 0 false (⟨true,([] : List T.q9)⟩ : (Sl T.q9)) (⟨v43.2.2.isEmpty,v43.2.2⟩ : (Sl T.Sel))),(decide (v4 > 0)),v43.2.1)
  else
   some ((T.Op.mk v4 ([] : Bytes) ([] : Bytes) 0 false (⟨true,([] : List T.q9)⟩ : (Sl T.q9)) (⟨v43.2.2.isEmpty,v43.2.2⟩ : (Sl T.Sel))),false,v43.2.1)
 else
  some ((T.Op.mk v4 ([] : Bytes) ([] : Bytes) 0 false (⟨true,([] : List T.q9)⟩ : (Sl T.q9)) (⟨true,([] : List T.Sel)⟩ : (Sl T.Sel))),(decide (v4 > 0)),v2.2)
def q3i : ((Sl UInt8) × (Sl Int) × Int × T.qf × (List T.Op)) → Option ((((Sl Int) × (Sl T.Op) × Int × Int × T.qf × (List T.Op)) ⊕ (T.qf × (List T.Op))))
 | (b,nums,line,r_,os) =>
  if (decide (r_.at_ < (b.l.length : Int))) then
   q5k r_ >>= fun v3 =>
   if (!v3.2.1) then
    some (.inl ((⟨true,([] : List Int)⟩ : Sl Int),(⟨true,([] : List T.Op)⟩ : Sl T.Op),line,10,v3.2.2,os))
   else
    q1w 10 v3.2.2 >>= fun v6 =>
    if (!v6.1) then
     some (.inl ((⟨true,([] : List Int)⟩ : Sl Int),(⟨true,([] : List T.Op)⟩ : Sl T.Op),line,10,v6.2,os))
    else
    if (decide ((os.length : Int) ≥ 1000)) then
     some (.inl ((⟨true,([] : List Int)⟩ : Sl Int),(⟨true,([] : List T.Op)⟩ : Sl T.Op),line,7,v6.2,os))
    else
     if zo (os.length + 1) 104 = true then
      q3i (b,nums,(IntKind.i64.wrap (line + 1)),v6.2,(os ++ [v3.1]))
     else none
  else
   some (.inr (r_,os))
 partial_fixpoint
def q5a (b : (Sl UInt8)) : Option (((Sl Int) × (Sl T.Op) × Int × Int)) :=
 if (decide ((b.l.length : Int) > 65536)) then
  some ((⟨true,([] : List Int)⟩ : Sl Int),(⟨true,([] : List T.Op)⟩ : Sl T.Op),0,4)
 else
  q44 (T.qf.mk b 0) >>= fun v3 =>
  if (!v3.2.1) then
   some ((⟨true,([] : List Int)⟩ : Sl Int),(⟨true,([] : List T.Op)⟩ : Sl T.Op),1,10)
  else
   q1w 10 v3.2.2 >>= fun v6 =>
   if (!v6.1) then
    some ((⟨true,([] : List Int)⟩ : Sl Int),(⟨true,([] : List T.Op)⟩ : Sl T.Op),1,10)
   else
    q3i (b,v3.1,2,v6.2,([] : List T.Op)) >>= fun v9 =>
    match v9 with
    | .inl y10 =>
     some (y10.1,y10.2.1,y10.2.2.1,y10.2.2.2.1)
    | .inr y11 =>
     some (v3.1,(⟨y11.2.isEmpty,y11.2⟩ : Sl T.Op),0,0)
def q2i : ((Sl Int) × (Sl Int) × Int) → Option (((Bool) ⊕ (Unit)))
 | (a,b,i) =>
  if (decide (i < (a.l.length : Int))) then
   za a.l i >>= fun x3 =>
   za b.l i >>= fun x5 =>
   if (x3 != x5) then
    some (.inl false)
   else
    q2i (a,b,(IntKind.i64.wrap (i + 1)))
  else
   some (.inr ())
 partial_fixpoint
def q63 (a : (Sl Int)) (b : (Sl Int)) : Option ((Bool)) :=
 if ((a.l.length : Int) != (b.l.length : Int)) then
  some false
 else
  q2i (a,b,0) >>= fun v3 =>
  match v3 with
  | .inl y4 =>
   some y4
  | .inr y5 =>
   some true
def q1l : ((Sl T.q9) × (Sl T.q9) × Int) → Option (((Bool) ⊕ (Unit)))
 | (a,b,i) =>
  if (decide (i < (a.l.length : Int))) then
   za a.l i >>= fun x3 =>
   za b.l i >>= fun x5 =>
   if (!(x3.span.frm == x5.span.frm && (x3.span.to == x5.span.to && (x3.text == x5.text)))) then
    some (.inl false)
   else
    q1l (a,b,(IntKind.i64.wrap (i + 1)))
  else
   some (.inr ())
 partial_fixpoint
def q58 (a : (Sl T.q9)) (b : (Sl T.q9)) : Option ((Bool)) :=
 if ((a.l.length : Int) != (b.l.length : Int)) then
  some false
 else
  q1l (a,b,0) >>= fun v3 =>
  match v3 with
  | .inl y4 =>
   some y4
  | .inr y5 =>
   some true
def q1u : ((Sl T.Sel) × (Sl T.Sel) × Int) → Option (((Bool) ⊕ (Unit)))
 | (a,b,i) =>
  if (decide (i < (a.l.length : Int))) then
   za a.l i >>= fun x3 =>
   za b.l i >>= fun x5 =>
   if (!(x3.anchor == x5.anchor && (x3.head == x5.head))) then
    some (.inl false)
   else
    q1u (a,b,(IntKind.i64.wrap (i + 1)))
  else
   some (.inr ())
 partial_fixpoint
def q4w (a : (Sl T.Sel)) (b : (Sl T.Sel)) : Option ((Bool)) :=
 if ((a.l.length : Int) != (b.l.length : Int)) then
  some false
 else
  q1u (a,b,0) >>= fun v3 =>
  match v3 with
  | .inl y4 =>
   some y4
  | .inr y5 =>
   some true
def q2e : ((Sl T.Op) × (Sl T.Op) × Int) → Option (((Bool) ⊕ (Unit)))
 | (a,b,i) =>
  if (decide (i < (a.l.length : Int))) then
   za a.l i >>= fun x3 =>
   za b.l i >>= fun x5 =>
   if ((x3.kind != x5.kind) || ((!(x3.name == x5.name)) || ((!(x3.text == x5.text)) || ((x3.n != x5.n) || (!(x3.extend == x5.extend)))))) then
    some (.inl false)
   else
    q58 x3.edits x5.edits >>= fun v12 =>
    if (!v12) then
     some (.inl false)
    else
     q4w x3.sels x5.sels >>= fun v15 =>
     if (!v15) then
      some (.inl false)
     else
      q2e (a,b,(IntKind.i64.wrap (i + 1)))
  else
   some (.inr ())
 partial_fixpoint
def q5q (a : (Sl T.Op)) (b : (Sl T.Op)) : Option ((Bool)) :=
 if ((a.l.length : Int) != (b.l.length : Int)) then
  some false
 else
  q2e (a,b,0) >>= fun v3 =>
  match v3 with
  | .inl y4 =>
   some y4
  | .inr y5 =>
   some true
def q66 (b : (Sl UInt8)) : Option ((Bool)) :=
 if (decide ((b.l.length : Int) > 200)) then
  aw4 >>= fun v3 =>
  some v3
 else
  q59 b >>= fun v5 =>
  q5a b >>= fun v7 =>
  q63 v5.1 v7.1 >>= fun v9 =>
  if v9 then
   q5q v5.2.1 v7.2.1 >>= fun v12 =>
   if (v12 && ((v5.2.2.1 == v7.2.2.1) && (v5.2.2.2 == v7.2.2.2))) then
    aw4 >>= fun v17 =>
    some v17
   else
    some false
  else
   some false
end Go.Proofs.YthikhbpbpphaaaaGreatDoor
