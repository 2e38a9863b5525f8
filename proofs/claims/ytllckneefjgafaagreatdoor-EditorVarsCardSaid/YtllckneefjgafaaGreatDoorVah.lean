/-
  The functions as plain Lean functions.
-/
import Derived.Test.YtllckneefjgafaaGreatDoorVaf
set_option linter.unusedSimpArgs false
set_option linter.unusedVariables false
set_option maxRecDepth 100000
namespace Go.Proofs.YtllckneefjgafaaGreatDoor
open Go Go.Gm
def q3s (c : UInt8) : Option ((Bool)) :=
 if ((decide ((c.toNat : Int) ≥ 65)) && (decide ((c.toNat : Int) ≤ 90))) then
  some true
 else
 if (decide ((c.toNat : Int) ≥ 97)) then
  some (decide ((c.toNat : Int) ≤ 122))
 else
  some false
def q3g (c : UInt8) : Option ((Bool)) :=
 if (decide ((c.toNat : Int) ≥ 48)) then
  some (decide ((c.toNat : Int) ≤ 57))
 else
  some false
def ma : (Bytes × Int) → Option (((Bool) ⊕ (Unit)))
 | (s,i) =>
  if (decide (i < (s.length : Int))) then
   ze s i >>= fun b3 =>
   q3s b3 >>= fun v5 =>
   if (!v5) then
    if ((b3.toNat : Int) != 95) then
     if (i == 0) then
      some (.inl false)
     else
      q3g b3 >>= fun v10 =>
      if (!v10) then
       some (.inl false)
      else
       ma (s,(IntKind.i64.wrap (i + 1)))
    else
     ma (s,(IntKind.i64.wrap (i + 1)))
   else
    ma (s,(IntKind.i64.wrap (i + 1)))
  else
   some (.inr ())
 partial_fixpoint
def q3n (s : Bytes) : Option ((Bool)) :=
 if (((s.length : Int) == 0) || (decide ((s.length : Int) > 64))) then
  some false
 else
  ma (s,0) >>= fun v4 =>
  match v4 with
  | .inl y5 =>
   some y5
  | .inr y6 =>
   some true
def q1l : (Bytes × Bytes × Int × (List T.qd)) → Option (((Int × (List T.qd)) ⊕ (Unit)))
 | (name,value,i,out) =>
  if (decide (i < (out.length : Int))) then
   ze out i >>= fun x3 =>
   if (x3.name == name) then
    some (.inl (0,(out.set i.toNat (T.qd.mk x3.name value))))
   else
    q1l (name,value,(IntKind.i64.wrap (i + 1)),out)
  else
   some (.inr ())
 partial_fixpoint
def q2b (name : Bytes) (value : Bytes) (env : (Sl T.qd)) : Option (((Sl T.qd) × Int)) :=
 q3n name >>= fun v2 =>
 if (!v2) then
  some ((⟨true,([] : List T.qd)⟩ : Sl T.qd),2)
 else
 if (decide ((value.length : Int) > 65536)) then
  some ((⟨true,([] : List T.qd)⟩ : Sl T.qd),4)
 else
  if j5 (env.l.length) 32 = true then
   q1l (name,value,0,env.l) >>= fun v7 =>
   match v7 with
   | .inl y8 =>
    some ((⟨false,y8.2⟩ : Sl T.qd),y8.1)
   | .inr y9 =>
    if (decide ((env.l.length : Int) ≥ 64)) then
     some ((⟨true,([] : List T.qd)⟩ : Sl T.qd),7)
    else
     if j5 (env.l.length + 1) 32 = true then
      some ((⟨false,(env.l ++ [(T.qd.mk name value)])⟩ : Sl T.qd),0)
     else none
  else none
def q3v (c : UInt8) : Option ((Bool)) :=
 if (((decide ((c.toNat : Int) ≥ 97)) && (decide ((c.toNat : Int) ≤ 122))) || (((decide ((c.toNat : Int) ≥ 65)) && (decide ((c.toNat : Int) ≤ 90))) || ((decide ((c.toNat : Int) ≥ 48)) && (decide ((c.toNat : Int) ≤ 57))))) then
  some true
 else
  some ((c.toNat : Int) == 95)
def q09 : (Bytes × Int) → Option (((Bool) ⊕ (Unit)))
 | (s,i) =>
  if (decide (i < (s.length : Int))) then
   ze s i >>= fun b3 =>
   q3v b3 >>= fun v5 =>
   if (!v5) then
    some (.inl false)
   else
   if (i == 0) then
    if (decide ((b3.toNat : Int) ≤ 57)) then
     some (.inl false)
    else
     q09 (s,(IntKind.i64.wrap (i + 1)))
   else
    q09 (s,(IntKind.i64.wrap (i + 1)))
  else
   some (.inr ())
 partial_fixpoint
def q3x (s : Bytes) : Option ((Bool)) :=
 q09 (s,0) >>= fun v2 =>
 match v2 with
 | .inl y3 =>
  some y3
 | .inr y4 =>
  if (!(s == ([] : Bytes))) then
   some (decide ((s.length : Int) ≤ 64))
  else
   some false
def q61 (s : (Sl T.qd)) : Option ((((Sl T.qd)) ⊕ ((List T.qd)))) :=
 if s.nil then
  some (.inl (⟨true,([] : List T.qd)⟩ : Sl T.qd))
 else
  if j5 (s.l.length) 32 = true then
   some (.inr s.l)
  else none
def q47 (p_ : T.qd) (b : Bytes) : Option ((Bool)) :=
 some (p_.name == b)
def q3i : ((Sl T.qd) × Int × Int × Bytes) → Option (((Int) ⊕ (Unit)))
 | (s,t7,t8,f) =>
  if (decide (t8 < t7)) then
   ze s.l t8 >>= fun x3 =>
   q47 x3 f >>= fun v5 =>
   if v5 then
    some (.inl t8)
   else
    q3i (s,t7,(IntKind.i64.wrap (t8 + 1)),f)
  else
   some (.inr ())
 partial_fixpoint
def q7m (s : (Sl T.qd)) (b : Bytes) : Option ((Int)) :=
 q3i (s,(s.l.length : Int),0,b) >>= fun v2 =>
 match v2 with
 | .inl y3 =>
  some y3
 | .inr y4 =>
  some (-1)
def q2c : (Int × Int × (List T.qd) × Bytes) → Option (((Int) ⊕ (Unit)))
 | (t7,t8,s,f) =>
  if (decide (t8 < t7)) then
   ze s t8 >>= fun x3 =>
   q47 x3 f >>= fun v5 =>
   if v5 then
    some (.inl t8)
   else
    q2c (t7,(IntKind.i64.wrap (t8 + 1)),s,f)
  else
   some (.inr ())
 partial_fixpoint
def q3q (r_ : (List T.qd)) (b : Bytes) : Option ((Int)) :=
 q2c ((r_.length : Int),0,r_,b) >>= fun v2 =>
 match v2 with
 | .inl y3 =>
  some y3
 | .inr y4 =>
  some (-1)
def nu (name : Bytes) (value : Bytes) (env : (Sl T.qd)) : Option (((Sl T.qd) × Int)) :=
 q3x name >>= fun v2 =>
 if (!v2) then
  some ((⟨true,([] : List T.qd)⟩ : Sl T.qd),2)
 else
 if (decide ((value.length : Int) > 65536)) then
  some ((⟨true,([] : List T.qd)⟩ : Sl T.qd),4)
 else
  q61 env >>= fun v6 =>
  match v6 with
  | .inl y7 =>
   q7m y7 name >>= fun v9 =>
   if (decide (v9 ≥ 0)) then
    ze y7.l v9 >>= fun x12 =>
    none
   else
   if (decide ((y7.l.length : Int) ≥ 64)) then
    some ((⟨true,([] : List T.qd)⟩ : Sl T.qd),7)
   else
    none
  | .inr y14 =>
   q3q y14 name >>= fun v16 =>
   if (decide (v16 ≥ 0)) then
    ze y14 v16 >>= fun x19 =>
    some ((⟨false,(y14.set v16.toNat (T.qd.mk x19.name value))⟩ : Sl T.qd),0)
   else
   if (decide ((y14.length : Int) ≥ 64)) then
    some ((⟨true,([] : List T.qd)⟩ : Sl T.qd),7)
   else
    if j5 (y14.length + 1) 32 = true then
     some ((⟨false,(y14 ++ [(T.qd.mk name value)])⟩ : Sl T.qd),0)
    else none
def q1c : ((Sl T.qd) × Int × (List T.qd)) → Option (((Bool) ⊕ (Unit)))
 | (b,i,a) =>
  if (decide (i < (a.length : Int))) then
   ze a i >>= fun x3 =>
   ze b.l i >>= fun x5 =>
   if (!(x3.name == x5.name && (x3.value == x5.value))) then
    some (.inl false)
   else
    q1c (b,(IntKind.i64.wrap (i + 1)),a)
  else
   some (.inr ())
 partial_fixpoint
def q5g (b : (Sl T.qd)) (r_ : (List T.qd)) : Option ((Bool)) :=
 if ((r_.length : Int) != (b.l.length : Int)) then
  some false
 else
  q1c (b,0,r_) >>= fun v3 =>
  match v3 with
  | .inl y4 =>
   some y4
  | .inr y5 =>
   some true
end Go.Proofs.YtllckneefjgafaaGreatDoor
