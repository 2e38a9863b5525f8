/-
  The functions as plain Lean functions.
-/
import Derived.Test.YtljbbncgpbgboaaGreatDoorCag
set_option linter.unusedSimpArgs false
set_option linter.unusedVariables false
set_option maxRecDepth 100000
namespace Go.Proofs.YtljbbncgpbgboaaGreatDoor
open Go Go.Gm
def mr : (Bytes × Int × Int) → Option ((Int))
 | (s,n,i) =>
  if (decide (i < (s.length : Int))) then
   wz s i >>= fun b3 =>
   mr (s,((IntKind.i64.wrap ((IntKind.i64.wrap (31 * n)) + (IntKind.i64.wrap (b3.toNat : Int)))).tmod 1000003),(IntKind.i64.wrap (i + 1)))
  else
   some n
 partial_fixpoint
def q1v (s : Bytes) : Option ((Int)) :=
 mr (s,0,0) >>= fun v2 =>
 some v2
def q09 : (Bytes × Bytes × Int × Int) → Option ((Int))
 | (s,t,n,i) =>
  if (decide (i < (t.length : Int))) then
   wz t i >>= fun b3 =>
   q09 (s,t,((IntKind.i64.wrap ((IntKind.i64.wrap (n * 31)) + (IntKind.i64.wrap (b3.toNat : Int)))).tmod 1000003),(IntKind.i64.wrap (i + 1)))
  else
   some n
 partial_fixpoint
def q0a : (Bytes × Int × Int) → Option ((Int))
 | (s,n,i) =>
  if (decide (i < (s.length : Int))) then
   wz s i >>= fun b3 =>
   q0a (s,((IntKind.i64.wrap ((IntKind.i64.wrap (n * 31)) + (IntKind.i64.wrap (b3.toNat : Int)))).tmod 1000003),(IntKind.i64.wrap (i + 1)))
  else
   some n
 partial_fixpoint
def q2i (s : Bytes) : Option ((Int)) :=
 q0a (s,0,0) >>= fun v2 =>
 some v2
def q2w (s : Bytes) (t : Bytes) : Option ((Bool)) :=
 if ((decide ((s.length : Int) > 100)) || (decide ((t.length : Int) > 100))) then
  aw4 >>= fun v3 =>
  some v3
 else
  q1v s >>= fun v8 =>
  q09 (s,t,v8,0) >>= fun v10 =>
  q2i s >>= fun v12 =>
  if (v8 == v12) then
   if s.length + t.length ≤ 2 ^ 62 then
    q1v (s ++ t) >>= fun v16 =>
    if (v16 == v10) then
     aw4 >>= fun v19 =>
     some v19
    else
     some false
   else none
  else
   some false
end Go.Proofs.YtljbbncgpbgboaaGreatDoor
