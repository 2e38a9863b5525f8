/-
  The functions as plain Lean functions.
-/
import Derived.Test.YtaglodpkpggdiaaGreatDoorLaf
set_option linter.unusedSimpArgs false
set_option linter.unusedVariables false
set_option maxRecDepth 100000
namespace Go.Proofs.YtaglodpkpggdiaaGreatDoor
open Go Go.Gm
def q3h : (Int × Int × (List Bytes)) → Option (((Bool) ⊕ (Unit)))
 | (n,i,ss) =>
  if (decide (i < (ss.length : Int))) then
   ql ss i >>= fun x3 =>
   if (decide ((x3.length : Int) ≥ n)) then
    some (.inl true)
   else
    q3h ((IntKind.i64.wrap ((IntKind.i64.wrap (n - (x3.length : Int))) - 1)),(IntKind.i64.wrap (i + 1)),ss)
  else
   some (.inr ())
 partial_fixpoint
def q7m (n : Int) (r_ : (List Bytes)) : Option ((Bool)) :=
 q3h (n,0,r_) >>= fun v2 =>
 match v2 with
 | .inl y3 =>
  some y3
 | .inr y4 =>
  some false
def q0f : (Int × (Sl T.qb) × Int) → Option (((Bool) ⊕ (Unit)))
 | (n,es,i) =>
  if (decide (i < (es.l.length : Int))) then
   ql es.l i >>= fun x3 =>
   if (decide ((x3.text.length : Int) > n)) then
    some (.inl true)
   else
    q0f ((IntKind.i64.wrap (n - (x3.text.length : Int))),es,(IntKind.i64.wrap (i + 1)))
  else
   some (.inr ())
 partial_fixpoint
def q6f (many : Int) (n : Int) (es : (Sl T.qb)) : Option ((Bool)) :=
 if (decide ((es.l.length : Int) > many)) then
  some true
 else
  q0f (n,es,0) >>= fun v3 =>
  match v3 with
  | .inl y4 =>
   some y4
  | .inr y5 =>
   some false
def q2r : (Int × (Sl T.Op) × Int × Int × (List Bytes)) → Option ((Int))
 | (n,os,i,k,r0_) =>
  ql os.l i >>= fun x2 =>
  if (decide (k < (x2.edits.l.length : Int))) then
   ql x2.edits.l k >>= fun x5 =>
   q2r ((IntKind.i64.wrap (n - (x5.text.length : Int))),os,i,(IntKind.i64.wrap (k + 1)),r0_)
  else
   some n
 partial_fixpoint
def q3o : (Int × (Sl T.Op) × Int) → Option (((Bool) ⊕ (Unit)))
 | (n,os,i) =>
  if (decide (i < (os.l.length : Int))) then
   ql os.l i >>= fun x3 =>
   q7m n [x3.name,x3.text] >>= fun v5 =>
   if v5 then
    some (.inl true)
   else
   if (decide ((x3.edits.l.length : Int) > 10)) then
    some (.inl true)
   else
   if (decide ((x3.sels.l.length : Int) > 10)) then
    some (.inl true)
   else
    q6f 10 n x3.edits >>= fun v10 =>
    if v10 then
     some (.inl true)
    else
     q2r ((IntKind.i64.wrap ((IntKind.i64.wrap (n - (x3.name.length : Int))) - (x3.text.length : Int))),os,i,0,[x3.name,x3.text]) >>= fun v13 =>
     if (decide (v13 < 0)) then
      some (.inl true)
     else
      q3o (v13,os,(IntKind.i64.wrap (i + 1)))
  else
   some (.inr ())
 partial_fixpoint
def q79 (many : Int) (n : Int) (os : (Sl T.Op)) : Option ((Bool)) :=
 if (decide ((os.l.length : Int) > many)) then
  some true
 else
  q3o (n,os,0) >>= fun v3 =>
  match v3 with
  | .inl y4 =>
   some y4
  | .inr y5 =>
   some false
def q62 (x : Int) (n : Int) : Option ((Int)) :=
 if (IntKind.u64.wrap n) ≠ 0 then
  some (IntKind.i64.wrap ((IntKind.u64.wrap x).tmod (IntKind.u64.wrap n)))
 else none
def q30 : ((Sl T.Op) × Int × Int × (List T.Op) × Int × Bytes × Bytes × Int × Bool × (Sl T.Sel) × (List T.qb)) → Option (((List T.qb)))
 | (os,i,k,out,o,o2,o3,o4,o5,o6,r2_) =>
  ql os.l i >>= fun x2 =>
  if (decide (k < (x2.edits.l.length : Int))) then
   ql x2.edits.l k >>= fun x5 =>
   if zf (r2_.length + 1) 32 = true then
    q30 (os,i,(IntKind.i64.wrap (k + 1)),out,o,o2,o3,o4,o5,o6,(r2_ ++ [(T.qb.mk (T.Span.mk (x5.span.frm.tmod 1000000000000000000) (x5.span.to.tmod 1000000000000000000)) x5.text)]))
   else none
  else
   some r2_
 partial_fixpoint
def q35 : ((Sl T.Op) × Int × Int × (List T.Op) × Int × Bytes × Bytes × Int × Bool × (Sl T.qb) × (List T.Sel)) → Option (((List T.Sel)))
 | (os,i,k,out,o,o2,o3,o4,o5,o6,r2_) =>
  ql os.l i >>= fun x2 =>
  if (decide (k < (x2.sels.l.length : Int))) then
   ql x2.sels.l k >>= fun x5 =>
   if zf (r2_.length + 1) 16 = true then
    q35 (os,i,(IntKind.i64.wrap (k + 1)),out,o,o2,o3,o4,o5,o6,(r2_ ++ [(T.Sel.mk (x5.anchor.tmod 1000000000000000000) (x5.head.tmod 1000000000000000000))]))
   else none
  else
   some r2_
 partial_fixpoint
def uh : ((Sl T.Op) × Int × (List T.Op)) → Option (((List T.Op)))
 | (os,i,out) =>
  if (decide (i < (os.l.length : Int))) then
   ql os.l i >>= fun x3 =>
   q62 x3.kind 13 >>= fun v5 =>
   if ((IntKind.i64.wrap (1 + v5)) == 1) then
    if zf (out.length + 1) 104 = true then
     uh (os,(IntKind.i64.wrap (i + 1)),(out ++ [(T.Op.mk (IntKind.i64.wrap (1 + v5)) x3.name x3.text 0 false (⟨true,[]⟩ : (Sl T.qb)) (⟨true,[]⟩ : (Sl T.Sel)))]))
    else none
   else
   if (((IntKind.i64.wrap (1 + v5)) == 2) || ((IntKind.i64.wrap (1 + v5)) == 7)) then
    if zf (out.length + 1) 104 = true then
     uh (os,(IntKind.i64.wrap (i + 1)),(out ++ [(T.Op.mk (IntKind.i64.wrap (1 + v5)) ([] : Bytes) x3.text 0 false (⟨true,[]⟩ : (Sl T.qb)) (⟨true,[]⟩ : (Sl T.Sel)))]))
    else none
   else
   if (((IntKind.i64.wrap (1 + v5)) == 3) || ((IntKind.i64.wrap (1 + v5)) == 11)) then
    if zf (out.length + 1) 104 = true then
     uh (os,(IntKind.i64.wrap (i + 1)),(out ++ [(T.Op.mk (IntKind.i64.wrap (1 + v5)) ([] : Bytes) ([] : Bytes) (x3.n.tmod 1000000000000000000) false (⟨true,[]⟩ : (Sl T.qb)) (⟨true,[]⟩ : (Sl T.Sel)))]))
    else none
   else
   if ((IntKind.i64.wrap (1 + v5)) == 6) then
    if zf (out.length + 1) 104 = true then
     uh (os,(IntKind.i64.wrap (i + 1)),(out ++ [(T.Op.mk (IntKind.i64.wrap (1 + v5)) ([] : Bytes) ([] : Bytes) (x3.n.tmod 1000000000000000000) x3.extend (⟨true,[]⟩ : (Sl T.qb)) (⟨true,[]⟩ : (Sl T.Sel)))]))
    else none
   else
   if ((IntKind.i64.wrap (1 + v5)) == 4) then
    q30 (os,i,0,out,(IntKind.i64.wrap (1 + v5)),([] : Bytes),([] : Bytes),0,false,(⟨true,([] : List T.Sel)⟩ : Sl T.Sel),([] : List T.qb)) >>= fun v20 =>
    if zf (out.length + 1) 104 = true then
     uh (os,(IntKind.i64.wrap (i + 1)),(out ++ [(T.Op.mk (IntKind.i64.wrap (1 + v5)) ([] : Bytes) ([] : Bytes) 0 false (⟨v20.isEmpty,v20⟩ : (Sl T.qb)) (⟨true,([] : List T.Sel)⟩ : (Sl T.Sel)))]))
    else none
   else
   if ((IntKind.i64.wrap (1 + v5)) == 5) then
    q35 (os,i,0,out,(IntKind.i64.wrap (1 + v5)),([] : Bytes),([] : Bytes),0,false,(⟨true,([] : List T.qb)⟩ : Sl T.qb),([] : List T.Sel)) >>= fun v24 =>
    if zf (out.length + 1) 104 = true then
     uh (os,(IntKind.i64.wrap (i + 1)),(out ++ [(T.Op.mk (IntKind.i64.wrap (1 + v5)) ([] : Bytes) ([] : Bytes) 0 false (⟨true,([] : List T.qb)⟩ : (Sl T.qb)) (⟨v24.isEmpty,v24⟩ : (Sl T.Sel)))]))
    else none
   else
    if zf (out.length + 1) 104 = true then
     uh (os,(IntKind.i64.wrap (i + 1)),(out ++ [(T.Op.mk (IntKind.i64.wrap (1 + v5)) ([] : Bytes) ([] : Bytes) 0 false (⟨true,[]⟩ : (Sl T.qb)) (⟨true,[]⟩ : (Sl T.Sel)))]))
    else none
  else
   some out
 partial_fixpoint
def q6h (os : (Sl T.Op)) : Option (((Sl T.Op))) :=
 uh (os,0,([] : List T.Op)) >>= fun v2 =>
 some (⟨v2.isEmpty,v2⟩ : Sl T.Op)
def yc (n : Int) : Option ((Bytes)) :=
 q8w n >>= fun v2 =>
 if ([32] : Bytes).length + v2.length ≤ 2 ^ 62 then
  some (([32] : Bytes) ++ v2)
 else none
def q3f : ((Sl T.Op) × (Sl Int) × Int × Int × (List UInt8)) → Option (((List UInt8)))
 | (os,t15,t16,t17,out) =>
  if (decide (t17 < t16)) then
   ql t15.l t17 >>= fun x3 =>
   yc (IntKind.i64.wrap x3) >>= fun v5 =>
   if zf (out.length + v5.length) 1 = true then
    q3f (os,t15,t16,(IntKind.i64.wrap (t17 + 1)),(out ++ v5))
   else none
  else
   some out
 partial_fixpoint
def ng : ((Sl Int) × Int × Int) → Option (((Bool) ⊕ (Unit)))
 | (t5,t6,t7) =>
  if (decide (t7 < t6)) then
   ql t5.l t7 >>= fun x3 =>
   if ((decide (x3 ≤ (-1000000000000000000))) || (decide (x3 ≥ 1000000000000000000))) then
    some (.inl false)
   else
    ng (t5,t6,(IntKind.i64.wrap (t7 + 1)))
  else
   some (.inr ())
 partial_fixpoint
def q2f (ns : (Sl Int)) : Option ((Bool)) :=
 ng (ns,(ns.l.length : Int),0) >>= fun v2 =>
 match v2 with
 | .inl y3 =>
  some y3
 | .inr y4 =>
  some true
def q18 (s : Bytes) : Option ((Bytes)) :=
 yc (s.length : Int) >>= fun v2 =>
 if v2.length + ([58] : Bytes).length ≤ 2 ^ 62 then
  if (v2 ++ ([58] : Bytes)).length + s.length ≤ 2 ^ 62 then
   some ((v2 ++ ([58] : Bytes)) ++ s)
  else none
 else none
def yh (o : T.Op) : Option ((Bool)) :=
 if ((o.name == ([] : Bytes)) && ((o.text == ([] : Bytes)) && ((o.n == 0) && ((!o.extend) && ((o.edits.l.length : Int) == 0))))) then
  some ((o.sels.l.length : Int) == 0)
 else
  some false
def q21 : (Bytes × Bool × (Sl T.qb) × Int × Int × T.Op × T.Op) → Option ((Bytes × Bool))
 | (out,ok_,t82,t83,t84,b0_,rest) =>
  if (decide (t84 < t83)) then
   ql t82.l t84 >>= fun x3 =>
   if ok_ then
    q2f (⟨false,[x3.span.frm,x3.span.to]⟩ : Sl Int) >>= fun v6 =>
    yc x3.span.frm >>= fun v8 =>
    yc x3.span.to >>= fun v10 =>
    if v8.length + v10.length ≤ 2 ^ 62 then
     q18 x3.text >>= fun v13 =>
     if (v8 ++ v10).length + v13.length ≤ 2 ^ 62 then
      if out.length + ((v8 ++ v10) ++ v13).length ≤ 2 ^ 62 then
       q21 ((out ++ ((v8 ++ v10) ++ v13)),v6,t82,t83,(IntKind.i64.wrap (t84 + 1)),b0_,rest)
      else none
     else none
    else none
   else
    yc x3.span.frm >>= fun v17 =>
    yc x3.span.to >>= fun v19 =>
    if v17.length + v19.length ≤ 2 ^ 62 then
     q18 x3.text >>= fun v22 =>
     if (v17 ++ v19).length + v22.length ≤ 2 ^ 62 then
      if out.length + ((v17 ++ v19) ++ v22).length ≤ 2 ^ 62 then
       q21 ((out ++ ((v17 ++ v19) ++ v22)),false,t82,t83,(IntKind.i64.wrap (t84 + 1)),b0_,rest)
      else none
     else none
    else none
  else
   some (out,ok_)
 partial_fixpoint
def q2l : (Bytes × Bool × (Sl T.Sel) × Int × Int × T.Op × T.Op) → Option ((Bytes × Bool))
 | (out,ok_,t119,t120,t121,b0_,rest) =>
  if (decide (t121 < t120)) then
   ql t119.l t121 >>= fun x3 =>
   if ok_ then
    q2f (⟨false,[x3.anchor,x3.head]⟩ : Sl Int) >>= fun v6 =>
    yc x3.anchor >>= fun v8 =>
    yc x3.head >>= fun v10 =>
    if v8.length + v10.length ≤ 2 ^ 62 then
     if out.length + (v8 ++ v10).length ≤ 2 ^ 62 then
      q2l ((out ++ (v8 ++ v10)),v6,t119,t120,(IntKind.i64.wrap (t121 + 1)),b0_,rest)
     else none
    else none
   else
    yc x3.anchor >>= fun v14 =>
    yc x3.head >>= fun v16 =>
    if v14.length + v16.length ≤ 2 ^ 62 then
     if out.length + (v14 ++ v16).length ≤ 2 ^ 62 then
      q2l ((out ++ (v14 ++ v16)),false,t119,t120,(IntKind.i64.wrap (t121 + 1)),b0_,rest)
     else none
    else none
  else
   some (out,ok_)
 partial_fixpoint
def mo (word : Bytes) : Option ((Int)) :=
 if (word == ([110,101,120,116] : Bytes)) then
  some 8
 else
 if (word == ([112,114,101,118] : Bytes)) then
  some 9
 else
 if (word == ([108,101,97,118,101] : Bytes)) then
  some 10
 else
 if (word == ([117,110,100,111] : Bytes)) then
  some 12
 else
 if (word == ([114,101,100,111] : Bytes)) then
  some 13
 else
  some 0
def q43 : (Int × Int × Int × (List Bytes)) → Option (((Bytes) ⊕ (Unit)))
 | (kind,t6,t7,t5) =>
  if (decide (t7 < t6)) then
   ql t5 t7 >>= fun x3 =>
   mo x3 >>= fun v5 =>
   if (v5 == kind) then
    some (.inl x3)
   else
    q43 (kind,t6,(IntKind.i64.wrap (t7 + 1)),t5)
  else
   some (.inr ())
 partial_fixpoint
def q75 (kind : Int) : Option ((Bytes)) :=
 q43 (kind,((5 : Nat) : Int),0,[([110,101,120,116] : Bytes),([112,114,101,118] : Bytes),([108,101,97,118,101] : Bytes),([117,110,100,111] : Bytes),([114,101,100,111] : Bytes)]) >>= fun v2 =>
 match v2 with
 | .inl y3 =>
  some y3
 | .inr y4 =>
  some ([] : Bytes)
def q72 (o : T.Op) : Option ((Bytes × Bool)) :=
 q2f (⟨false,[o.n]⟩ : Sl Int) >>= fun v2 =>
 if (o.kind == 1) then
  q18 o.name >>= fun v5 =>
  if ([115,101,116] : Bytes).length + v5.length ≤ 2 ^ 62 then
   q18 o.text >>= fun v8 =>
   if (([115,101,116] : Bytes) ++ v5).length + v8.length ≤ 2 ^ 62 then
    if (v2 && (!(((([115,101,116] : Bytes) ++ v5) ++ v8) == ([] : Bytes)))) then
     yh (T.Op.mk o.kind ([] : Bytes) ([] : Bytes) o.n o.extend o.edits o.sels) >>= fun v13 =>
     some (((([115,101,116] : Bytes) ++ v5) ++ v8),v13)
    else
     some (((([115,101,116] : Bytes) ++ v5) ++ v8),false)
   else none
  else none
 else
 if (o.kind == 2) then
  q18 o.text >>= fun v16 =>
  if ([116,121,112,101] : Bytes).length + v16.length ≤ 2 ^ 62 then
   if (o.kind == 7) then
    if ([105,110,115,101,114,116] : Bytes).length + v16.length ≤ 2 ^ 62 then
     if (v2 && (!((([105,110,115,101,114,116] : Bytes) ++ v16) == ([] : Bytes)))) then
      yh (T.Op.mk o.kind o.name ([] : Bytes) o.n o.extend o.edits o.sels) >>= fun v23 =>
      some ((([105,110,115,101,114,116] : Bytes) ++ v16),v23)
     else
      some ((([105,110,115,101,114,116] : Bytes) ++ v16),false)
    else none
   else
   if (v2 && (!((([116,121,112,101] : Bytes) ++ v16) == ([] : Bytes)))) then
    yh (T.Op.mk o.kind o.name ([] : Bytes) o.n o.extend o.edits o.sels) >>= fun v27 =>
    some ((([116,121,112,101] : Bytes) ++ v16),v27)
   else
    some ((([116,121,112,101] : Bytes) ++ v16),false)
  else none
 else
 if (o.kind == 7) then
  q18 o.text >>= fun v30 =>
  if ([116,121,112,101] : Bytes).length + v30.length ≤ 2 ^ 62 then
   if ([105,110,115,101,114,116] : Bytes).length + v30.length ≤ 2 ^ 62 then
    if (v2 && (!((([105,110,115,101,114,116] : Bytes) ++ v30) == ([] : Bytes)))) then
     yh (T.Op.mk o.kind o.name ([] : Bytes) o.n o.extend o.edits o.sels) >>= fun v36 =>
     some ((([105,110,115,101,114,116] : Bytes) ++ v30),v36)
    else
     some ((([105,110,115,101,114,116] : Bytes) ++ v30),false)
   else none
  else none
 else
 if (o.kind == 3) then
  yc o.n >>= fun v39 =>
  if ([101,114,97,115,101] : Bytes).length + v39.length ≤ 2 ^ 62 then
   if (o.kind == 11) then
    if ([99,104,111,111,115,101] : Bytes).length + v39.length ≤ 2 ^ 62 then
     if (v2 && (!((([99,104,111,111,115,101] : Bytes) ++ v39) == ([] : Bytes)))) then
      yh (T.Op.mk o.kind o.name o.text 0 o.extend o.edits o.sels) >>= fun v46 =>
      some ((([99,104,111,111,115,101] : Bytes) ++ v39),v46)
     else
      some ((([99,104,111,111,115,101] : Bytes) ++ v39),false)
    else none
   else
   if (v2 && (!((([101,114,97,115,101] : Bytes) ++ v39) == ([] : Bytes)))) then
    yh (T.Op.mk o.kind o.name o.text 0 o.extend o.edits o.sels) >>= fun v50 =>
    some ((([101,114,97,115,101] : Bytes) ++ v39),v50)
   else
    some ((([101,114,97,115,101] : Bytes) ++ v39),false)
  else none
 else
 if (o.kind == 11) then
  yc o.n >>= fun v53 =>
  if ([101,114,97,115,101] : Bytes).length + v53.length ≤ 2 ^ 62 then
   if ([99,104,111,111,115,101] : Bytes).length + v53.length ≤ 2 ^ 62 then
    if (v2 && (!((([99,104,111,111,115,101] : Bytes) ++ v53) == ([] : Bytes)))) then
     yh (T.Op.mk o.kind o.name o.text 0 o.extend o.edits o.sels) >>= fun v59 =>
     some ((([99,104,111,111,115,101] : Bytes) ++ v53),v59)
    else
     some ((([99,104,111,111,115,101] : Bytes) ++ v53),false)
   else none
  else none
 else
 if (o.kind == 6) then
  yc o.n >>= fun v62 =>
  if ([109,111,118,101] : Bytes).length + v62.length ≤ 2 ^ 62 then
   if (([109,111,118,101] : Bytes) ++ v62).length + ([32,48] : Bytes).length ≤ 2 ^ 62 then
    if o.extend then
     if ([109,111,118,101] : Bytes).length + v62.length ≤ 2 ^ 62 then
      if (([109,111,118,101] : Bytes) ++ v62).length + ([32,49] : Bytes).length ≤ 2 ^ 62 then
       if (v2 && (!(((([109,111,118,101] : Bytes) ++ v62) ++ ([32,49] : Bytes)) == ([] : Bytes)))) then
        yh (T.Op.mk o.kind o.name o.text 0 false o.edits o.sels) >>= fun v71 =>
        some (((([109,111,118,101] : Bytes) ++ v62) ++ ([32,49] : Bytes)),v71)
       else
        some (((([109,111,118,101] : Bytes) ++ v62) ++ ([32,49] : Bytes)),false)
      else none
     else none
    else
    if (v2 && (!(((([109,111,118,101] : Bytes) ++ v62) ++ ([32,48] : Bytes)) == ([] : Bytes)))) then
     yh (T.Op.mk o.kind o.name o.text 0 false o.edits o.sels) >>= fun v75 =>
     some (((([109,111,118,101] : Bytes) ++ v62) ++ ([32,48] : Bytes)),v75)
    else
     some (((([109,111,118,101] : Bytes) ++ v62) ++ ([32,48] : Bytes)),false)
   else none
  else none
 else
 if (o.kind == 4) then
  q21 (([101,100,105,116] : Bytes),v2,o.edits,(o.edits.l.length : Int),0,o,o) >>= fun v78 =>
  if (v78.2 && (!(v78.1 == ([] : Bytes)))) then
   yh (T.Op.mk o.kind o.name o.text o.n o.extend (⟨true,([] : List T.qb)⟩ : (Sl T.qb)) o.sels) >>= fun v82 =>
   some (v78.1,v82)
  else
   some (v78.1,false)
 else
 if (o.kind == 5) then
  q2l (([115,101,108,101,99,116] : Bytes),v2,o.sels,(o.sels.l.length : Int),0,o,o) >>= fun v85 =>
  if (v85.2 && (!(v85.1 == ([] : Bytes)))) then
   yh (T.Op.mk o.kind o.name o.text o.n o.extend o.edits (⟨true,([] : List T.Sel)⟩ : (Sl T.Sel))) >>= fun v89 =>
   some (v85.1,v89)
  else
   some (v85.1,false)
 else
  q75 o.kind >>= fun v91 =>
  if (v2 && (!(v91 == ([] : Bytes)))) then
   yh o >>= fun v95 =>
   some (v91,v95)
  else
   some (v91,false)
def q1u : ((Sl T.Op) × (Sl T.Op) × Int × Int × (List UInt8) × (List UInt8)) → Option ((((Sl UInt8) × Int × (List UInt8)) ⊕ ((List UInt8))))
 | (os,t30,t31,t32,out,r1_) =>
  if (decide (t32 < t31)) then
   ql t30.l t32 >>= fun x3 =>
   q72 x3 >>= fun v5 =>
   if (!v5.2) then
    some (.inl ((⟨true,([] : List UInt8)⟩ : Sl UInt8),2,out))
   else
    if zf (out.length + v5.1.length) 1 = true then
     if zf ((out ++ v5.1).length + 1) 1 = true then
      q1u (os,t30,t31,(IntKind.i64.wrap (t32 + 1)),((out ++ v5.1) ++ [10]),r1_)
     else none
    else none
  else
   some (.inr out)
 partial_fixpoint
def q53 (nums : (Sl Int)) (os : (Sl T.Op)) : Option (((Sl UInt8) × Int)) :=
 if 0 < [100,105,99,101].length then
  q3f (os,nums,(nums.l.length : Int),0,[100,105,99,101]) >>= fun v3 =>
  if zf (v3.length + 1) 1 = true then
   q1u (os,os,(os.l.length : Int),0,(v3 ++ [10]),[10]) >>= fun v6 =>
   match v6 with
   | .inl y7 =>
    some (y7.1,y7.2.1)
   | .inr y8 =>
    if (decide ((os.l.length : Int) > 1000)) then
     some ((⟨true,([] : List UInt8)⟩ : Sl UInt8),7)
    else
    if (decide ((y8.length : Int) > 65536)) then
     some ((⟨true,([] : List UInt8)⟩ : Sl UInt8),4)
    else
     some ((⟨false,y8⟩ : Sl UInt8),0)
  else none
 else none
def q2g : (Int × T.qc) → Option ((T.qc))
 | (frm,p_) =>
  if (decide (p_.place.at_ < (p_.place.b.l.length : Int))) then
   ql p_.place.b.l p_.place.at_ >>= fun x3 =>
   if (decide ((x3.toNat : Int) ≥ 97)) then
    if (decide ((x3.toNat : Int) ≤ 122)) then
     q2g (frm,(T.qc.mk (T.yo.mk p_.place.b (IntKind.i64.wrap (p_.place.at_ + 1))) p_.ok_))
    else
     some p_
   else
    some p_
  else
   some p_
 partial_fixpoint
def q5e (b : T.qc) : Option ((Bytes × T.qc)) :=
 q2g (b.place.at_,b) >>= fun v2 =>
 ji v2.place.b.l b.place.at_ v2.place.at_ >>= fun r4 =>
 some (r4,v2)
def q4q (b : T.qc) : Option ((Bool)) :=
 if (b.ok_ && (decide (b.place.at_ < (b.place.b.l.length : Int)))) then
  ql b.place.b.l b.place.at_ >>= fun x4 =>
  some ((x4.toNat : Int) == 32)
 else
  some false
def je (c : UInt8) (b : T.qc) : Option ((Bool × T.qc)) :=
 if (decide (b.place.at_ ≥ (b.place.b.l.length : Int))) then
  some (false,b)
 else
  ql b.place.b.l b.place.at_ >>= fun x3 =>
  if ((x3.toNat : Int) != (c.toNat : Int)) then
   some (false,b)
  else
   some (true,(T.qc.mk (T.yo.mk b.place.b (IntKind.i64.wrap (b.place.at_ + 1))) b.ok_))
def q4p (b : T.qc) : Option ((T.qc)) :=
 if b.ok_ then
  je 32 b >>= fun v3 =>
  some (T.qc.mk v3.2.place v3.1)
 else
  some (T.qc.mk b.place false)
def q1o : (Bool × Int × Int × T.qc) → Option (((Int × Bool × Int × T.qc) ⊕ (Int × T.qc)))
 | (below,frm,n,p_) =>
  if (decide (p_.place.at_ < (p_.place.b.l.length : Int))) then
   ql p_.place.b.l p_.place.at_ >>= fun x3 =>
   if (decide ((x3.toNat : Int) ≥ 48)) then
    if (decide ((x3.toNat : Int) ≤ 57)) then
     if ((IntKind.i64.wrap (p_.place.at_ - frm)) == 18) then
      some (.inl (0,false,n,p_))
     else
      q1o (below,frm,(IntKind.i64.wrap ((IntKind.i64.wrap (10 * n)) + (IntKind.i64.wrap (IntKind.u8.wrap ((x3.toNat : Int) - 48))))),(T.qc.mk (T.yo.mk p_.place.b (IntKind.i64.wrap (p_.place.at_ + 1))) p_.ok_))
    else
     some (.inr (n,p_))
   else
    some (.inr (n,p_))
  else
   some (.inr (n,p_))
 partial_fixpoint
def q4k (b : T.qc) : Option ((Int × Bool × T.qc)) :=
 je 45 b >>= fun v2 =>
 q1o (v2.1,v2.2.place.at_,0,v2.2) >>= fun v4 =>
 match v4 with
 | .inl y5 =>
  some (y5.1,y5.2.1,y5.2.2.2)
 | .inr y6 =>
  if (y6.2.place.at_ == v2.2.place.at_) then
   some (0,false,y6.2)
  else
   ql y6.2.place.b.l v2.2.place.at_ >>= fun x9 =>
   if ((x9.toNat : Int) == 48) then
    if (v2.1 || (decide ((IntKind.i64.wrap (y6.2.place.at_ - v2.2.place.at_)) > 1))) then
     some (0,false,y6.2)
    else
     some (y6.1,true,y6.2)
   else
   if v2.1 then
    some ((IntKind.i64.wrap (0 - y6.1)),true,y6.2)
   else
    some (y6.1,true,y6.2)
def pz (b : T.qc) : Option ((Int × T.qc)) :=
 q4p b >>= fun v2 =>
 q4k v2 >>= fun v4 =>
 if v4.2.2.ok_ then
  some (v4.1,(T.qc.mk v4.2.2.place v4.2.1))
 else
  some (v4.1,(T.qc.mk v4.2.2.place false))
def q12 : (T.qc × (List Int)) → Option ((T.qc × (List Int)))
 | (r_,nums) =>
  q4q r_ >>= fun v2 =>
  if v2 then
   pz r_ >>= fun v5 =>
   if (v5.2.ok_ && (decide (v5.1 ≥ 0))) then
    if zf (nums.length + 1) 4 = true then
     q12 ((T.qc.mk v5.2.place (decide (v5.1 < 4294967296))),(nums ++ [(IntKind.u32.wrap v5.1)]))
    else none
   else
    if zf (nums.length + 1) 4 = true then
     q12 ((T.qc.mk v5.2.place false),(nums ++ [(IntKind.u32.wrap v5.1)]))
    else none
  else
   some (r_,nums)
 partial_fixpoint
def q7c (b : T.qc) : Option (((Sl Int) × T.qc)) :=
 q5e b >>= fun v2 =>
 q12 ((T.qc.mk v2.2.place (v2.1 == ([100,105,99,101] : Bytes))),([] : List Int)) >>= fun v4 =>
 if v4.1.ok_ then
  je 10 v4.1 >>= fun v7 =>
  some ((⟨v4.2.isEmpty,v4.2⟩ : Sl Int),(T.qc.mk v7.2.place v7.1))
 else
  some ((⟨v4.2.isEmpty,v4.2⟩ : Sl Int),(T.qc.mk v4.1.place false))
def q61 (b : T.qc) : Option ((Bytes × Bool × T.qc)) :=
 q4k b >>= fun v2 =>
 if (!v2.2.1) then
  some (([] : Bytes),false,v2.2.2)
 else
  je 58 v2.2.2 >>= fun v5 =>
  if ((!v5.1) || ((decide (v2.1 < 0)) || (decide (v2.1 > (IntKind.i64.wrap ((v5.2.place.b.l.length : Int) - v5.2.place.at_)))))) then
   some (([] : Bytes),false,v5.2)
  else
   ji v5.2.place.b.l (IntKind.i64.wrap ((IntKind.i64.wrap (v5.2.place.at_ + v2.1)) - v2.1)) (IntKind.i64.wrap (v5.2.place.at_ + v2.1)) >>= fun r10 =>
   some (r10,true,(T.qc.mk (T.yo.mk v5.2.place.b (IntKind.i64.wrap (v5.2.place.at_ + v2.1))) v5.2.ok_))
def q20 (b : T.qc) : Option ((Bytes × T.qc)) :=
 q4p b >>= fun v2 =>
 q61 v2 >>= fun v4 =>
 if v4.2.2.ok_ then
  some (v4.1,(T.qc.mk v4.2.2.place v4.2.1))
 else
  some (v4.1,(T.qc.mk v4.2.2.place false))
def q1p : (T.qc × T.Op × Int × Bytes × Bytes × Int × Bool × (Sl T.Sel) × (List T.qb)) → Option ((T.qc × (List T.qb)))
 | (r_,t2,o,o2,o3,o4,o5,o6,r3_) =>
  q4q r_ >>= fun v2 =>
  if v2 then
   pz r_ >>= fun v5 =>
   pz v5.2 >>= fun v7 =>
   q20 v7.2 >>= fun v9 =>
   if zf (r3_.length + 1) 32 = true then
    q1p (v9.2,t2,o,o2,o3,o4,o5,o6,(r3_ ++ [(T.qb.mk (T.Span.mk v5.1 v7.1) v9.1)]))
   else none
  else
   some (r_,r3_)
 partial_fixpoint
def q2a : (T.qc × T.Op × Int × Bytes × Bytes × Int × Bool × (Sl T.qb) × (List T.Sel)) → Option ((T.qc × (List T.Sel)))
 | (r_,t2,o,o2,o3,o4,o5,o6,r3_) =>
  q4q r_ >>= fun v2 =>
  if v2 then
   pz r_ >>= fun v5 =>
   pz v5.2 >>= fun v7 =>
   if zf (r3_.length + 1) 16 = true then
    q2a (v7.2,t2,o,o2,o3,o4,o5,o6,(r3_ ++ [(T.Sel.mk v5.1 v7.1)]))
   else none
  else
   some (r_,r3_)
 partial_fixpoint
def q7g (b : T.qc) : Option ((T.Op × T.qc)) :=
 q5e b >>= fun v2 =>
 if (v2.1 == ([115,101,116] : Bytes)) then
  q20 v2.2 >>= fun v5 =>
  q20 v5.2 >>= fun v7 =>
  if v7.2.ok_ then
   je 10 v7.2 >>= fun v10 =>
   some ((T.Op.mk 1 v5.1 v7.1 0 false (⟨true,([] : List T.qb)⟩ : (Sl T.qb)) (⟨true,([] : List T.Sel)⟩ : (Sl T.Sel))),(T.qc.mk v10.2.place v10.1))
  else
   some ((T.Op.mk 1 v5.1 v7.1 0 false (⟨true,([] : List T.qb)⟩ : (Sl T.qb)) (⟨true,([] : List T.Sel)⟩ : (Sl T.Sel))),(T.qc.mk v7.2.place false))
 else
 if (v2.1 == ([116,121,112,101] : Bytes)) then
  q20 v2.2 >>= fun v13 =>
  if v13.2.ok_ then
   je 10 v13.2 >>= fun v16 =>
   some ((T.Op.mk 2 ([] : Bytes) v13.1 0 false (⟨true,([] : List T.qb)⟩ : (Sl T.qb)) (⟨true,([] : List T.Sel)⟩ : (Sl T.Sel))),(T.qc.mk v16.2.place v16.1))
  else
   some ((T.Op.mk 2 ([] : Bytes) v13.1 0 false (⟨true,([] : List T.qb)⟩ : (Sl T.qb)) (⟨true,([] : List T.Sel)⟩ : (Sl T.Sel))),(T.qc.mk v13.2.place false))
 else
 if (v2.1 == ([105,110,115,101,114,116] : Bytes)) then
  q20 v2.2 >>= fun v19 =>
  if v19.2.ok_ then
   je 10 v19.2 >>= fun v22 =>
   some ((T.Op.mk 7 ([] : Bytes) v19.1 0 false (⟨true,([] : List T.qb)⟩ : (Sl T.qb)) (⟨true,([] : List T.Sel)⟩ : (Sl T.Sel))),(T.qc.mk v22.2.place v22.1))
  else
   some ((T.Op.mk 7 ([] : Bytes) v19.1 0 false (⟨true,([] : List T.qb)⟩ : (Sl T.qb)) (⟨true,([] : List T.Sel)⟩ : (Sl T.Sel))),(T.qc.mk v19.2.place false))
 else
 if (v2.1 == ([101,114,97,115,101] : Bytes)) then
  pz v2.2 >>= fun v25 =>
  if v25.2.ok_ then
   je 10 v25.2 >>= fun v28 =>
   some ((T.Op.mk 3 ([] : Bytes) ([] : Bytes) v25.1 false (⟨true,([] : List T.qb)⟩ : (Sl T.qb)) (⟨true,([] : List T.Sel)⟩ : (Sl T.Sel))),(T.qc.mk v28.2.place v28.1))
  else
   some ((T.Op.mk 3 ([] : Bytes) ([] : Bytes) v25.1 false (⟨true,([] : List T.qb)⟩ : (Sl T.qb)) (⟨true,([] : List T.Sel)⟩ : (Sl T.Sel))),(T.qc.mk v25.2.place false))
 else
 if (v2.1 == ([99,104,111,111,115,101] : Bytes)) then
  pz v2.2 >>= fun v31 =>
  if v31.2.ok_ then
   je 10 v31.2 >>= fun v34 =>
   some ((T.Op.mk 11 ([] : Bytes) ([] : Bytes) v31.1 false (⟨true,([] : List T.qb)⟩ : (Sl T.qb)) (⟨true,([] : List T.Sel)⟩ : (Sl T.Sel))),(T.qc.mk v34.2.place v34.1))
  else
   some ((T.Op.mk 11 ([] : Bytes) ([] : Bytes) v31.1 false (⟨true,([] : List T.qb)⟩ : (Sl T.qb)) (⟨true,([] : List T.Sel)⟩ : (Sl T.Sel))),(T.qc.mk v31.2.place false))
 else
 if (v2.1 == ([109,111,118,101] : Bytes)) then
  pz v2.2 >>= fun v37 =>
  q4p v37.2 >>= fun v39 =>
  je 49 v39 >>= fun v41 =>
  if v41.2.ok_ then
   if v41.1 then
    je 10 (T.qc.mk v41.2.place true) >>= fun v45 =>
    some ((T.Op.mk 6 ([] : Bytes) ([] : Bytes) v37.1 v41.1 (⟨true,([] : List T.qb)⟩ : (Sl T.qb)) (⟨true,([] : List T.Sel)⟩ : (Sl T.Sel))),(T.qc.mk v45.2.place v45.1))
   else
    je 48 v41.2 >>= fun v47 =>
    if v47.1 then
     je 10 (T.qc.mk v47.2.place v47.1) >>= fun v50 =>
     some ((T.Op.mk 6 ([] : Bytes) ([] : Bytes) v37.1 v41.1 (⟨true,([] : List T.qb)⟩ : (Sl T.qb)) (⟨true,([] : List T.Sel)⟩ : (Sl T.Sel))),(T.qc.mk v50.2.place v50.1))
    else
     some ((T.Op.mk 6 ([] : Bytes) ([] : Bytes) v37.1 v41.1 (⟨true,([] : List T.qb)⟩ : (Sl T.qb)) (⟨true,([] : List T.Sel)⟩ : (Sl T.Sel))),(T.qc.mk v47.2.place false))
  else
   some ((T.Op.mk 6 ([] : Bytes) ([] : Bytes) v37.1 v41.1 (⟨true,([] : List T.qb)⟩ : (Sl T.qb)) (⟨true,([] : List T.Sel)⟩ : (Sl T.Sel))),(T.qc.mk v41.2.place false))
 else
 if (v2.1 == ([101,100,105,116] : Bytes)) then
  q1p (v2.2,(T.Op.mk 0 ([] : Bytes) ([] : Bytes) 0 false (⟨true,([] : List T.qb)⟩ : (Sl T.qb)) (⟨true,([] : List T.Sel)⟩ : (Sl T.Sel))),4,([] : Bytes),([] : Bytes),0,false,(⟨true,([] : List T.Sel)⟩ : Sl T.Sel),([] : List T.qb)) >>= fun v53 =>
  if v53.1.ok_ then
   je 10 v53.1 >>= fun v56 =>
   some ((T.Op.mk 4 ([] : Bytes) ([] : Bytes) 0 false (⟨v53.2.isEmpty,v53.2⟩ : (Sl T.qb)) (⟨true,([] : List T.Sel)⟩ : (Sl T.Sel))),(T.qc.mk v56.2.place v56.1))
  else
   some ((T.Op.mk 4 ([] : Bytes) ([] : Bytes) 0 false (⟨v53.2.isEmpty,v53.2⟩ : (Sl T.qb)) (⟨true,([] : List T.Sel)⟩ : (Sl T.Sel))),(T.qc.mk v53.1.place false))
 else
 if (v2.1 == ([115,101,108,101,99,116] : Bytes)) then
  q2a (v2.2,(T.Op.mk 0 ([] : Bytes) ([] : Bytes) 0 false (⟨true,([] : List T.qb)⟩ : (Sl T.qb)) (⟨true,([] : List T.Sel)⟩ : (Sl T.Sel))),5,([] : Bytes),([] : Bytes),0,false,(⟨true,([] : List T.qb)⟩ : Sl T.qb),([] : List T.Sel)) >>= fun v59 =>
  if v59.1.ok_ then
   je 10 v59.1 >>= fun v62 =>
   some ((T.Op.mk 5 ([] : Bytes) ([] : Bytes) 0 false (⟨true,([] : List T.qb)⟩ : (Sl T.qb)) (⟨v59.2.isEmpty,v59.2⟩ : (Sl T.Sel))),(T.qc.mk v62.2.place v62.1))
  else
   some ((T.Op.mk 5 ([] : Bytes) ([] : Bytes) 0 false (⟨true,([] : List T.qb)⟩ : (Sl T.qb)) (⟨v59.2.isEmpty,v59.2⟩ : (Sl T.Sel))),(T.qc.mk v59.1.place false))
 else
  mo v2.1 >>= fun v64 =>
  if (v2.2.ok_ && (decide (v64 > 0))) then
   je 10 (T.qc.mk v2.2.place (decide (v64 > 0))) >>= fun v68 =>
   some ((T.Op.mk v64 ([] : Bytes) ([] : Bytes) 0 false (⟨true,([] : List T.qb)⟩ : (Sl T.qb)) (⟨true,([] : List T.Sel)⟩ : (Sl T.Sel))),(T.qc.mk v68.2.place v68.1))
  else
   some ((T.Op.mk v64 ([] : Bytes) ([] : Bytes) 0 false (⟨true,([] : List T.qb)⟩ : (Sl T.qb)) (⟨true,([] : List T.Sel)⟩ : (Sl T.Sel))),(T.qc.mk v2.2.place false))
def q1k : ((Sl UInt8) × (Sl Int) × Int × T.qc × (List T.Op)) → Option ((((Sl Int) × (Sl T.Op) × Int × Int × Int × T.qc × (List T.Op)) ⊕ (Int × T.qc × (List T.Op))))
 | (b,nums,line,r_,os) =>
  if (r_.ok_ && (decide (r_.place.at_ < (b.l.length : Int)))) then
   q7g r_ >>= fun v4 =>
   if zf (os.length + 1) 104 = true then
    if v4.2.ok_ then
     if (decide (((os ++ [v4.1]).length : Int) > 1000)) then
      some (.inl ((⟨true,([] : List Int)⟩ : Sl Int),(⟨true,([] : List T.Op)⟩ : Sl T.Op),(IntKind.i64.wrap (line + 1)),7,line,v4.2,(os ++ [v4.1])))
     else
      q1k (b,nums,(IntKind.i64.wrap (line + 1)),v4.2,(os ++ [v4.1]))
    else
     q1k (b,nums,(IntKind.i64.wrap (line + 1)),v4.2,(os ++ [v4.1]))
   else none
  else
   some (.inr (line,r_,os))
 partial_fixpoint
def q6c (b : (Sl UInt8)) : Option (((Sl Int) × (Sl T.Op) × Int × Int)) :=
 if (decide ((b.l.length : Int) > 65536)) then
  some ((⟨true,([] : List Int)⟩ : Sl Int),(⟨true,([] : List T.Op)⟩ : Sl T.Op),0,4)
 else
  q7c (T.qc.mk (T.yo.mk b 0) true) >>= fun v3 =>
  q1k (b,v3.1,1,v3.2,([] : List T.Op)) >>= fun v5 =>
  match v5 with
  | .inl y6 =>
   some (y6.1,y6.2.1,y6.2.2.1,y6.2.2.2.1)
  | .inr y7 =>
   if (!y7.2.1.ok_) then
    some ((⟨true,([] : List Int)⟩ : Sl Int),(⟨true,([] : List T.Op)⟩ : Sl T.Op),y7.1,10)
   else
    some (v3.1,(⟨y7.2.2.isEmpty,y7.2.2⟩ : Sl T.Op),0,0)
def q83 (b : (Sl UInt8)) : Option ((Bytes × Int × Int)) :=
 q6c b >>= fun v2 =>
 if (v2.2.2.2 != 0) then
  some (([] : Bytes),v2.2.2.1,v2.2.2.2)
 else
  none
def q8r (os : (Sl T.Op)) (which : Int) : Option ((Bool)) :=
 q79 8 100 os >>= fun v2 =>
 if v2 then
  aw7 >>= fun v5 =>
  some v5
 else
  q6h os >>= fun v7 =>
  q53 (⟨false,[7]⟩ : Sl Int) v7 >>= fun v9 =>
  q62 which ((17 : Nat) : Int) >>= fun v11 =>
  ql [([100,105,99,101,10] : Bytes),([116,121,112,32,49,58,97,10] : Bytes),([116,121,112,101,32,50,58,97,10] : Bytes),([110,101,120,116,32,10] : Bytes),([101,114,97,115,101,32,32,49,10] : Bytes),([101,114,97,115,101,32,48,49,10] : Bytes),([101,114,97,115,101,32,45,48,10] : Bytes),([109,111,118,101,32,49,32,50,10] : Bytes),([101,100,105,116,32,49,32,50,10] : Bytes),([10] : Bytes),([115,101,116,32,49,58,97,10] : Bytes),([115,101,108,101,99,116,32,49,10] : Bytes),([117,110,100,111] : Bytes),([116,121,112,101,32,49,58,97] : Bytes),([99,104,111,111,115,101,32,49,50,51,52,53,54,55,56,57,48,49,50,51,52,53,54,55,56,57,10] : Bytes),([116,121,112,101,32,45,49,58,10] : Bytes),([101,114,97,115,101,32,43,49,10] : Bytes)] v11 >>= fun x13 =>
  if v9.1.l.length + x13.length ≤ 2 ^ 62 then
   q6c (⟨false,(v9.1.l ++ x13)⟩ : Sl UInt8) >>= fun v16 =>
   q83 (⟨false,(v9.1.l ++ x13)⟩ : Sl UInt8) >>= fun v18 =>
   if ((v9.2 == 0) && (((v16.1.l.length : Int) == 0) && (((v16.2.1.l.length : Int) == 0) && ((v16.2.2.1 == (IntKind.i64.wrap ((os.l.length : Int) + 2))) && ((v16.2.2.2 == 10) && ((v18.1 == ([] : Bytes)) && ((v18.2.1 == v16.2.2.1) && (v18.2.2 == v16.2.2.2)))))))) then
    aw7 >>= fun v28 =>
    some v28
   else
    some false
  else none
end Go.Proofs.YtaglodpkpggdiaaGreatDoor
