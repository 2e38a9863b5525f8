/-
  The machine, part a.
-/
import Derived.WalkKit
import GoSem.Claims
set_option linter.unusedSimpArgs false
set_option linter.unusedVariables false
namespace Go.Gm
open Go
inductive PV where
 | bool (b : Bool)
 | int (k : IntKind) (n : Int)
 | str (s : List UInt8)
 | agg (c : List PV)
 | sl (isnil : Bool) (sz : Nat) (es : List (List PV))
 | nilptr
 | nilfn
 | nilmap
 | nilif
 | fn (f : FuncId)
 | rp (c : List PV)
 deriving Inhabited
def PV.bn : PV → Bool
 | .bool _ | .int _ _ | .str _ | .nilptr | .nilfn | .nilmap | .nilif | .fn _ => true
 | _ => false
inductive AV where
 | pv (p : PV)
 | ptr (β : Nat) (o : Nat)
 | eptr (β ver i o : Nat)
 | rptr (c : List PV) (o : Nat)
 | row (β ver off n : Nat)
 | zsl
 | map (β : Nat)
 | qj (β : Nat)
 | clo (f : FuncId) (first cap : List AV)
 | agg (c : List AV)
 | tup (l : List AV)
 | undef
 deriving Inhabited
inductive Blk where
 | box (c : List AV)
 | row (isnil : Bool) (sz : Nat) (es : List (List PV))
 | map (es : List (PV × PV × Nat)) (clock : Nat)
 | ql (sz : Nat) (es : List (List AV))
 | z8 (t : TypeId) (c : List AV)
 | qj (es : List (PV × AV × Nat)) (clock : Nat)
 | za (e : TypeId) (isnil : Bool) (sz : Nat) (es : List (List PV))
 | qh (isnil : Bool) (dims : List Nat) (es : List PV) (foc : Option (Nat × Nat × Nat))
 | dead
 deriving Inhabited
def Blk.sh : Blk → Option (Bool × Nat × Nat)
 | .row isnil sz es => some (isnil,sz,es.length)
 | .ql sz es => some (false,sz,es.length)
 | .za _ isnil sz es => some (isnil,sz,es.length)
 | .qh isnil _ es _ => some (isnil,1,es.length)
 | _ => none
def Blk.slv : Blk → Option (Bool × Nat × Nat)
 | .row isnil sz es => some (isnil,sz,es.length)
 | .qh isnil _ es none => some (isnil,1,es.length)
 | _ => none
def szc {α : Type} (k : Nat) : List α → Nat
 | [] => 0
 | _ :: _ => k
def q38 (isnil : Bool) (sz : Nat) (es : List (List PV)) : PV := .sl isnil (szc sz es) es
abbrev Env := List (Nat × AV)
abbrev Heap := List (Nat × Blk)
def Env.get : Env → Nat → AV
 | [],_ => .undef
 | (i,v) :: r,n => if i = n then v else Env.get r n
def Heap.get : Heap → Nat → Option Blk
 | [],_ => none
 | (i,v) :: r,n => if i = n then some v else Heap.get r n
def Heap.put : Heap → Nat → Blk → Heap
 | [],n,x => [(n,x)]
 | (i,v) :: r,n,x => if i = n then (i,x) :: r else (i,v) :: Heap.put r n x
structure St where
 env : Env
 heap : Heap
 nx : Nat
 deriving Inhabited
inductive TD where
 | struct (fields : List (Nat × Nat × TypeId))
 | array (len : Nat) (elem : TypeId)
 | slice (elem : TypeId)
 | map (key elem : TypeId)
 | bool
 | int (k : IntKind)
 | string
 | ptr
 | func
 | other
 deriving Inhabited
structure TI where
 size : Nat
 bytes : Nat
 td : TD
 zero : List PV
 eq : Bool
 pe : Option TypeId := none
 deriving Inhabited
def TI.isAgg (t : TI) : Bool := match t.td with | .struct _ | .array _ _ => true | _ => false
def q3u : Value → Option PV
 | .bool b => some (.bool b)
 | .int k n => some (.int k n)
 | .string s => some (.str s.data.toList)
 | .pointer none => some .nilptr
 | .slice none 0 0 => some (.sl true 0 [])
 | .map none => some .nilmap
 | .nilFunc => some .nilfn
 | .nilIface => some .nilif
 | .func (.func f) ⟨[]⟩ ⟨[]⟩ => some (.fn f)
 | _ => none
def vw : List Value → Option (List PV)
 | [] => some []
 | v :: r => match q3u v,vw r with
  | some p,some l => some (p :: l)
  | _,_ => none
def q5d (v : Value) : AV :=
 match v with
 | .agg ⟨cs⟩ => match vw cs with | some l => .pv (.agg l) | none => .undef
 | .tuple ⟨[]⟩ => .tup []
 | v => match q3u v with | some p => .pv p | none => .undef
structure xy where
 live : List Nat := []
 out : List Nat := []
 zq : List Nat := []
 zl : List (Nat × Nat) := []
 freeze : List Nat := []
 own : Nat := 0
 deriving Inhabited
def xy.off (sp : xy) : Nat := if sp.own = 1000 then 0 else sp.own
structure FI where
 nt : Nat
 results : List ResultVar
 body : Code
 deriving Inhabited
inductive Cmd where
 | focus (t : Nat) (is : List Nat)
 | pack (t : Nat)
 | cut (t : Nat)
 | prom (t : Nat) (dims : List Nat)
 | frz (t : Nat)
 deriving Inhabited
structure GP where
 ti : TypeId → Option TI
 fn : FuncId → Option FI
 spec : FuncId → Nat → xy
 owned : FuncId → Bool
 keep : FuncId → Bool
 pre : FuncId → Nat → List Nat
 frz : TypeId → Bool
 mrf : TypeId → Bool
 cmd : FuncId → Nat → List Cmd
def ev (E : Env) : Operand → AV
 | .tmp t => E.get t
 | .const v => q5d v
 | .global _ => .undef
 | .func f => .pv (.fn f)
def um : List AV → Option (List PV)
 | [] => some []
 | .pv p :: r => match um r with | some l => some (p :: l) | none => none
 | _ :: _ => none
def q17 (c : List AV) : AV := match um c with | some l => .pv (.agg l) | none => .agg c
def AV.cells : AV → List AV
 | .pv (.agg c) => c.map .pv
 | .agg c => c
 | v => [v]
def PV.cells : PV → List PV
 | .agg c => c
 | p => [p]
def AV.q0s : AV → Bool
 | .undef | .tup _ => false
 | _ => true
def AV.slc : AV → Bool
 | .row _ _ _ _ | .zsl | .pv (.sl _ _ _) => true
 | _ => false
def q2a : AV → Option PV
 | .pv p => some p
 | .zsl => some (.sl false 0 [])
 | _ => none
def zy : AV → Option Nat
 | .pv (.int _ n) => if 0 ≤ n then some n.toNat else none
 | _ => none
abbrev Eff := AV × List (Nat × Blk) × Nat
def ldA (ti : TI) (c : List AV) : Option AV :=
 if ti.isAgg then (if ti.size ≤ c.length then some (q17 (c.take ti.size)) else none)
 else match c with | x :: _ => some x | [] => none
def ldP (ti : TI) (c : List PV) : Option AV :=
 if ti.isAgg then (if ti.size ≤ c.length then some (.pv (.agg (c.take ti.size))) else none)
 else match c with | x :: _ => some (.pv x) | [] => none
def ni (ti : TI) (a : AV) (H : Heap) : Option AV :=
 match a with
 | .ptr β o => match H.get β with
  | some (.box c) => ldA ti (c.drop o)
  | some (.z8 _ c) => ldA ti (c.drop o)
  | _ => none
 | .eptr β ver i o => match H.get β with
  | some (.row false _ es) => if ver = es.length then match es[i]? with | some e => ldP ti (e.drop o) | none => none else none
  | some (.ql _ es) => if ver = es.length then match es[i]? with | some e => ldA ti (e.drop o) | none => none else none
  | some (.qh false _ es (some (j,γ,fv))) => if ver = es.length ∧ o = 0 ∧ j = i then ldA ti [.row γ fv 0 fv] else none
  | _ => none
 | .rptr c o => ldP ti (c.drop o)
 | .pv (.rp c) => ldP ti c
 | _ => none
def q1s (sz β ver i o size : Nat) (vs : List AV) (es : List (List AV)) : Option (List (Nat × Blk)) :=
 if ver = es.length then match es[i]? with
  | some e => if o + size ≤ e.length then some [(β,.ql sz (es.set i (e.take o ++ vs ++ e.drop (o + size))))] else none
  | none => none
 else none
def q9c : Option (Nat × Nat × Nat) → Nat → Bool
 | some x,i => decide (x.1 = i)
 | none,_ => true
def q44 (β ver i o size : Nat) (v : AV) (ds : List Nat) (es : List PV) (foc : Option (Nat × Nat × Nat)) : Option (List (Nat × Blk)) :=
 match v with
 | .row γ fv 0 n => if ver = es.length ∧ i < es.length ∧ o = 0 ∧ size = 1 ∧ n = fv ∧ q9c foc i = true then some [(β,.qh false ds es (some (i,γ,fv)))] else none
 | _ => none
def q02 (ti : TI) (a v : AV) (H : Heap) : Option (List (Nat × Blk)) :=
 if v.q0s = true ∧ v.cells.length = ti.size then
  match a with
  | .ptr β o => match H.get β with
   | some (.box c) => if o + ti.size ≤ c.length then some [(β,.box (c.take o ++ v.cells ++ c.drop (o + ti.size)))] else none
   | some (.z8 t c) => if o + ti.size ≤ c.length then some [(β,.z8 t (c.take o ++ v.cells ++ c.drop (o + ti.size)))] else none
   | _ => none
  | .eptr β ver i o => match um v.cells with
   | some ps => match H.get β with
    | some (.row false sz es) =>
     if ver = es.length then match es[i]? with
      | some e => if o + ti.size ≤ e.length then some [(β,.row false sz (es.set i (e.take o ++ ps ++ e.drop (o + ti.size))))] else none
      | none => none
     else none
    | some (.ql sz es) => q1s sz β ver i o ti.size v.cells es
    | _ => none
   | none => match H.get β with
    | some (.ql sz es) => q1s sz β ver i o ti.size v.cells es
    | some (.qh false ds es foc) => q44 β ver i o ti.size v ds es foc
    | _ => none
  | _ => none
 else none
def uo (place : Nat → Option (Nat × Nat)) (ρ : Operand → AV) : List (Nat × Operand) → List AV → Option (List AV)
 | [],c => some c
 | (i,x) :: r,c =>
  match place i with
  | some (off,size) =>
   if (ρ x).q0s = true ∧ (ρ x).cells.length = size ∧ off + size ≤ c.length then
    uo place ρ r (c.take off ++ (ρ x).cells ++ c.drop (off + size))
   else none
  | none => none
def q6s (fs : List (Nat × Nat × TypeId)) (i : Nat) : Option (Nat × Nat) := match fs[i]? with | some (o,s,_) => some (o,s) | none => none
def q3f (ti : TI) (esz : TypeId → Option TI) (ρ : Operand → AV) (parts : List (Nat × Operand)) : Option AV :=
 match ti.td with
 | .struct fs => match uo (q6s fs) ρ parts (ti.zero.map .pv) with | some c => some (q17 c) | none => none
 | .array _ e => match esz e with
  | some te => match uo (fun i => some (i * te.size,te.size)) ρ parts (ti.zero.map .pv) with | some c => some (q17 c) | none => none
  | none => none
 | _ => none
def uu (size : Nat) (ρ : Operand → AV) : List (Nat × Operand) → List (List PV) → Option (List (List PV))
 | [],es => some es
 | (i,x) :: r,es =>
  match q2a (ρ x) with
  | some p => if p.cells.length = size ∧ i < es.length then uu size ρ r (es.set i p.cells) else none
  | none => none
def q08 (size : Nat) (ρ : Operand → AV) : List (Nat × Operand) → List (List AV) → Option (List (List AV))
 | [],es => some es
 | (i,x) :: r,es => if (ρ x).q0s = true ∧ (ρ x).cells.length = size ∧ i < es.length then q08 size ρ r (es.set i (ρ x).cells) else none
def j3 (v : AV) (H : Heap) : Option (Nat × List (List PV)) :=
 match v with
 | .pv (.sl _ sz es) => some (sz,es)
 | .zsl => some (0,[])
 | .row β ver off n => match H.get β with
  | some (.row _ sz es) => if ver = es.length then some (sz,(es.drop off).take n) else none
  | _ => none
 | .pv (.str s) => some (1,s.map fun b => [.int .u8 b.toNat])
 | _ => none
def j5 (need bytes : Nat) : Bool := decide (need * bytes ≤ 2 ^ 46) && decide (need ≤ 2 ^ 46) && decide (bytes ≤ 2 ^ 20)
def jr (te : TI) (s : AV) (src : List (List PV)) (γ nx nx' : Nat) : Option Eff :=
 match src with
 | [] => some (s,[],nx)
 | _ :: _ => if j5 src.length te.bytes = true then some (.row γ src.length 0 src.length,[(γ,.row false te.size src)],nx') else none
def bu (v : AV) (H : Heap) : Option (Nat × List (List AV)) :=
 match v with
 | .row β ver off n => match H.get β with
  | some (.ql sz es) => if ver = es.length then some (sz,(es.drop off).take n) else none
  | _ => none
 | _ => none
def q0m (te : TI) (src : List (List AV)) (γ nx' : Nat) : Option Eff :=
 match src with
 | [] => none
 | _ :: _ => if j5 src.length te.bytes = true then some (.row γ src.length 0 src.length,[(γ,.ql te.size src)],nx') else none
def gq (te : TI) (s x : AV) (H : Heap) (nx : Nat) : Option Eff :=
 match bu x H with
 | none => none
 | some (xsz,src) =>
  if xsz = te.size ∧ 0 < te.size then
   match s with
   | .pv (.sl true _ _) => q0m te src nx (nx + 1)
   | .row β ver off n => match H.get β with
    | some (.row true _ es) => if ver = es.length ∧ off = 0 ∧ n = 0 then q0m te src β nx else none
    | some (.ql sz es) =>
     if ver = es.length ∧ sz = te.size ∧ off = 0 ∧ n = es.length ∧ j5 (n + src.length) te.bytes = true then
      some (.row β (es ++ src).length 0 (es ++ src).length,[(β,.ql te.size (es ++ src))],nx)
     else none
    | _ => none
   | _ => none
  else none
def jk (te : TI) (s x : AV) (H : Heap) (nx : Nat) : Option Eff :=
 match j3 x H with
 | none => gq te s x H nx
 | some (xsz,src) =>
  if (xsz = te.size ∨ src = []) ∧ 0 < te.size then
   match s with
   | .pv (.sl true _ _) => jr te s src nx nx (nx + 1)
   | .zsl => jr te s src nx nx (nx + 1)
   | .row β ver off n => match H.get β with
    | some (.row true _ es) => if ver = es.length ∧ off = 0 ∧ n = 0 then jr te s src β nx nx else none
    | some (.row false sz es) =>
     if ver = es.length ∧ sz = te.size ∧ off = 0 ∧ j5 (n + src.length) te.bytes = true then
      if n = es.length then some (.row β (es ++ src).length 0 (es ++ src).length,[(β,.row false te.size (es ++ src))],nx)
      else some (.row β (es.take n ++ src ++ es.drop (n + src.length)).length 0 (n + src.length),[(β,.row false te.size (es.take n ++ src ++ es.drop (n + src.length)))],nx)
     else none
    | _ => none
   | _ => none
  else none
def u7 (te : TI) (s x : AV) (H : Heap) (nx : Nat) : Option Eff :=
 match bu x H with
 | some (xsz,[[.row γ fv 0 fn]]) => match s with
  | .row β ver off n => match H.get β with
   | some (.qh isnil ds es none) => if ver = es.length ∧ off = 0 ∧ n = es.length ∧ xsz = te.size ∧ te.size = 1 ∧ fn = fv ∧ j5 (n + 1) te.bytes = true then
     some (.row β (es.length + 1) 0 (es.length + 1),[(β,.qh false ds (es ++ [.sl true 0 []]) (some (es.length,γ,fv)))],nx) else none
   | _ => none
  | _ => none
 | _ => none
def bytesOf : List (List PV) → Option (List UInt8)
 | [] => some []
 | [.int .u8 n] :: r => match bytesOf r with | some l => some (UInt8.ofNat n.toNat :: l) | none => none
 | _ => none
def wu (e : TypeId) (te : TI) (s x : AV) (H : Heap) (nx : Nat) : Option Eff :=
 match s with
 | .row β ver off n => match H.get β with
  | some (.za e' isnil sz es) => match j3 x H with
   | some (xsz,src) =>
    if e' = e ∧ ver = es.length ∧ off = 0 ∧ n = es.length ∧ (xsz = te.size ∨ src = []) ∧ 0 < te.size ∧ j5 (n + src.length) te.bytes = true ∧ (isnil = true ∨ sz = te.size) then
     match src with
     | [] => some (s,[],nx)
     | _ :: _ => some (.row β (es ++ src).length 0 (es ++ src).length,[(β,.za e false te.size (es ++ src))],nx)
    else none
   | none => none
  | _ => none
 | _ => none
def q1b (x : AV) (H : Heap) (nx : Nat) : Option Eff :=
 match x with
 | .row β ver off n => match H.get β with
  | some (.za _ isnil _ es) =>
   if ver = es.length ∧ off = 0 ∧ n = es.length then
    if isnil = true then some (.pv .nilptr,[],nx)
    else if 0 < n then some (.eptr β ver 0 0,[],nx) else none
   else none
  | _ => none
 | _ => none
def q0n (el : TypeId) (p x : AV) (H : Heap) (nx : Nat) : Option Eff :=
 match p,zy x with
 | .pv .nilptr,some 0 => some (.pv (.str []),[],nx)
 | .eptr β ver 0 0,some n => match H.get β with
  | some (.za e false 1 es) =>
   if e = el ∧ ver = es.length ∧ n = es.length ∧ 0 < n ∧ n < 2 ^ 62 then
    match bytesOf es with
    | some l => some (.pv (.str l),[(β,.dead)],nx)
    | none => none
   else none
  | _ => none
 | _,_ => none
def tu (te : TI) (d x : AV) (H : Heap) (nx : Nat) : Option Eff :=
 match j3 x H with
 | none => none
 | some (xsz,src) => match d with
  | .row β ver off n => match H.get β with
   | some (.row false sz es) =>
    if ver = es.length ∧ sz = te.size ∧ (xsz = te.size ∨ src = []) then
     some (.pv (.int .i64 ((src.take n).length : Nat)),[(β,.row false te.size (es.take off ++ src.take n ++ es.drop (off + (src.take n).length)))],nx)
    else none
   | _ => none
  | _ => none
def q2i (td : TD) (esz : TypeId → Option TI) (x i : AV) (H : Heap) : Option AV :=
 match zy i with
 | none => none
 | some k =>
  match td with
  | .slice e => match esz e with
   | none => none
   | some te => match x with
    | .pv (.sl _ sz es) => if sz = te.size then match es[k]? with | some c => some (.rptr c 0) | none => none else none
    | .row β ver off n => match H.get β with
     | some (.row false sz es) => if ver = es.length ∧ sz = te.size ∧ k < n then some (.eptr β ver (off + k) 0) else none
     | some (.ql sz es) => if ver = es.length ∧ sz = te.size ∧ k < n then some (.eptr β ver (off + k) 0) else none
     | some (.qh false _ es _) => if ver = es.length ∧ te.size = 1 ∧ k < n then some (.eptr β ver (off + k) 0) else none
     | _ => none
    | _ => none
  | .array len e => match esz e with
   | none => none
   | some te => if k < len then match x with
    | .ptr β o => some (.ptr β (o + k * te.size))
    | .eptr β ver j o => some (.eptr β ver j (o + k * te.size))
    | .rptr c o => some (.rptr c (o + k * te.size))
    | _ => none
    else none
  | _ => none
def q4m (td : TD) (x : AV) (f : Nat) : Option AV :=
 match td with
 | .struct fs => match fs[f]? with
  | some (o',s,_) => if 0 < s then match x with
   | .ptr β o => some (.ptr β (o + o'))
   | .eptr β ver j o => some (.eptr β ver j (o + o'))
   | .rptr c o => some (.rptr c (o + o'))
   | .pv (.rp c) => some (.rptr c o')
   | _ => none
   else none
  | none => none
 | _ => none
def q3t (ti : TI) (x : AV) (off : Nat) : Option AV :=
 match x with
 | .pv (.agg c) => ldP ti (c.drop off)
 | .agg c => ldA ti (c.drop off)
 | _ => none
def zi (ρ : Operand → AV) (d : Nat) : Option Operand → Option Nat
 | none => some d
 | some x => zy (ρ x)
def bq (td : TD) (esz : TypeId → Option TI) (ρ : Operand → AV) (x : AV) (lo hi mx : Option Operand) (H : Heap) : Option AV :=
 if mx.isSome = true ∧ hi.isNone = true then none else
 match td with
 | .string => match x with
  | .pv (.str s) =>
   if mx.isSome then none else
   match zi ρ 0 lo,zi ρ s.length hi with
   | some l,some h => if l ≤ h ∧ h ≤ s.length then some (.pv (.str ((s.take h).drop l))) else none
   | _,_ => none
  | _ => none
 | .slice e => match esz e with
  | none => none
  | some te => match x with
   | .pv (.sl isnil sz es) =>
    match zi ρ 0 lo,zi ρ es.length hi,zi ρ es.length mx with
    | some l,some h,some m =>
     if l ≤ h ∧ h ≤ m ∧ m ≤ es.length ∧ (sz = te.size ∨ es = []) then
      if mx.isSome = true ∧ l = m ∧ isnil = false then some .zsl else some (.pv (q38 isnil sz ((es.take h).drop l)))
     else none
    | _,_,_ => none
   | .row β ver off n =>
    match H.get β with
    | some b => match b.slv with
     | some (isnil,sz,k) =>
      match zi ρ 0 lo,zi ρ n hi,zi ρ n mx with
      | some l,some h,some m =>
       if ver = k ∧ l ≤ h ∧ h ≤ m ∧ m ≤ n ∧ (sz = te.size ∨ isnil = true) then
        if isnil = true then some (.row β ver off n)
        else if mx.isSome = true then (if l = m then some .zsl else none)
        else some (.row β ver (off + l) (h - l))
       else none
      | _,_,_ => none
     | none => none
    | none => none
   | .zsl =>
    match zi ρ 0 lo,zi ρ 0 hi,zi ρ 0 mx with
    | some 0,some 0,some 0 => some .zsl
    | _,_,_ => none
   | _ => none
 | _ => none
def wh : List UInt8 → List UInt8 → Bool
 | _,[] => false
 | [],_ :: _ => true
 | a :: x,b :: y => a < b || (a == b && wh x y)
def q60 (op : BinOp) (k : IntKind) (a b : Int) : Option PV :=
 match op with
 | .add => some (.int k (k.wrap (a + b)))
 | .sub => some (.int k (k.wrap (a - b)))
 | .mul => some (.int k (k.wrap (a * b)))
 | .quo => if b = 0 then none else some (.int k (k.wrap (a.tdiv b)))
 | .rem => if b = 0 then none else some (.int k (a.tmod b))
 | .eql => some (.bool (a == b))
 | .neq => some (.bool (a != b))
 | .lss => some (.bool (decide (a < b)))
 | .leq => some (.bool (decide (a ≤ b)))
 | .gtr => some (.bool (decide (a > b)))
 | .geq => some (.bool (decide (a ≥ b)))
 | .and => some (.int k (k.wrap (BitVec.ofInt k.bits a &&& BitVec.ofInt k.bits b).toNat))
 | .or => some (.int k (k.wrap (BitVec.ofInt k.bits a ||| BitVec.ofInt k.bits b).toNat))
 | .xor => some (.int k (k.wrap (BitVec.ofInt k.bits a ^^^ BitVec.ofInt k.bits b).toNat))
 | .andNot => some (.int k (k.wrap (BitVec.ofInt k.bits a &&& ~~~BitVec.ofInt k.bits b).toNat))
 | _ => none
def q5k (op : BinOp) (a b : List UInt8) : Option PV :=
 match op with
 | .add => if a.length + b.length ≤ 2 ^ 62 then some (.str (a ++ b)) else none
 | .eql => some (.bool (a == b))
 | .neq => some (.bool (!(a == b)))
 | .lss => some (.bool (wh a b))
 | .leq => some (.bool (wh a b || a == b))
 | .gtr => some (.bool (!(wh a b || a == b)))
 | .geq => some (.bool (!wh a b))
 | _ => none
def qm : List PV → List PV → Option Bool
 | [],[] => some true
 | .int k a :: r,.int k' b :: r' => if k = k' then match qm r r' with | some t => some (a == b && t) | none => none else none
 | .str a :: r,.str b :: r' => match qm r r' with | some t => some (a == b && t) | none => none
 | .bool a :: r,.bool b :: r' => match qm r r' with | some t => some (a == b && t) | none => none
 | _,_ => none
def xc (td : TD) (v : AV) (H : Heap) : Option Bool :=
 match td with
 | .ptr => match v with
  | .pv .nilptr => some true
  | .ptr _ _ | .rptr _ _ | .eptr _ _ _ _ | .pv (.rp _) => some false
  | _ => none
 | .slice _ => match v with
  | .pv (.sl b _ _) => some b
  | .zsl => some false
  | .row β ver _ _ => match H.get β with
   | some (.row b _ es) => if ver = es.length then some b else none
   | _ => none
  | _ => none
 | .map _ _ => match v with
  | .pv .nilmap => some true
  | .map _ => some false
  | _ => none
 | .func => match v with
  | .pv .nilfn => some true
  | .pv (.fn _) | .clo _ _ _ => some false
  | _ => none
 | _ => none
def q3w (td : TD) (v : AV) : Bool :=
 match td,v with
 | .ptr,.pv .nilptr => true
 | .slice _,.pv (.sl true _ _) => true
 | .map _ _,.pv .nilmap => true
 | .func,.pv .nilfn => true
 | _,_ => false
def zf : TD → PV → Bool
 | .int _,.int _ _ | .string,.str _ | .bool,.bool _ => true
 | _,_ => false
def q28 (esz : TypeId → Option TI) : List (Nat × Nat × TypeId) → List PV → Bool
 | [],[] => true
 | (_,_,t) :: r,p :: l => (match esz t with | some ti => zf ti.td p | none => false) && q28 esz r l
 | _,_ => false
def q69 (esz : TypeId → Option TI) (ti : TI) (a : List PV) : Bool :=
 match ti.td with
 | .struct fs => if ti.size ≤ a.length then ti.eq && q28 esz fs (a.take ti.size) else false
 | td => zf td (a.headD .nilptr)
def fitAll (esz : TypeId → Option TI) : List (Nat × Nat × TypeId) → List PV → Bool
 | [],[] => true
 | [],_ :: _ => false
 | (_,_,t) :: r,a => match esz t with
  | some ti => q69 esz ti a && fitAll esz r (a.drop ti.size)
  | none => false
def aEq (esz : TypeId → Option TI) (ti : TI) (x y : AV) (H : Heap) : Option Bool :=
 match ti.td with
 | .bool => match x,y with
  | .pv (.bool a),.pv (.bool b) => some (a == b)
  | _,_ => none
 | .struct fs => match x,y with
  | .pv (.agg a),.pv (.agg b) => if ti.eq = true ∧ fitAll esz fs a = true then qm a b else none
  | _,_ => none
 | td => if q3w td y = true then xc td x H else if q3w td x = true then xc td y H else none
def q1o (esz : TypeId → Option TI) (op : BinOp) (ti : TI) (x y : AV) (H : Heap) : Option PV :=
 match op with
 | .shl => match x,y with
  | .pv (.int k a),.pv (.int _ b) => if 0 ≤ b then some (.int k (k.wrap (a * 2 ^ (min b.toNat k.bits)))) else none
  | _,_ => none
 | .shr => match x,y with
  | .pv (.int k a),.pv (.int _ b) => if 0 ≤ b then some (.int k (a.fdiv (2 ^ (min b.toNat k.bits)))) else none
  | _,_ => none
 | op => match x,y with
  | .pv (.int k a),.pv (.int k' b) => if k = k' then q60 op k a b else none
  | .pv (.str a),.pv (.str b) => q5k op a b
  | x,y => match op with
   | .eql => match aEq esz ti x y H with | some t => some (.bool t) | none => none
   | .neq => match aEq esz ti x y H with | some t => some (.bool (!t)) | none => none
   | _ => none
def q0a : TD → AV → Bool
 | .string,.pv (.str _) => true
 | .slice _,.pv (.sl _ _ _) => true
 | .slice _,.row _ _ _ _ => true
 | .slice _,.zsl => true
 | .map _ _,.pv .nilmap => true
 | .map _ _,.map _ => true
 | _,_ => false
def aUn (op : UnOp) (x : AV) : Option PV :=
 match op,x with
 | .not,.pv (.bool b) => some (.bool !b)
 | .neg,.pv (.int k n) => some (.int k (k.wrap (0 - n)))
 | _,_ => none
def q0e (src dst : TD) (dte : TypeId → Option TI) (x : AV) (H : Heap) (nx : Nat) : Option Eff :=
 match src,dst,x with
 | _,.int k,.pv (.int _ n) => some (.pv (.int k (k.wrap n)),[],nx)
 | _,.string,.pv (.str s) => some (.pv (.str s),[],nx)
 | .slice e,.string,x => match dte e with
  | some te => match te.td with
   | .int .u8 => match j3 x H with
    | some (xsz,es) => if xsz = 1 ∨ es = [] then match bytesOf es with | some l => some (.pv (.str l),[],nx) | none => none else none
    | none => none
   | _ => none
  | none => none
 | _,.slice e,.pv (.str s) => match dte e with
  | some te => match te.td with
   | .int .u8 => some (.row nx s.length 0 s.length,[(nx,.row false 1 (s.map fun b => [.int .u8 b.toNat]))],nx + 1)
   | _ => none
  | none => none
 | _,_,_ => none
def q33 : PV → PV → Option Bool
 | .int k a,.int k' b => if k = k' then some (a == b) else none
 | .str a,.str b => some (a == b)
 | .bool a,.bool b => some (a == b)
 | _,_ => none
def findKey (k : PV) : List (PV × PV × Nat) → Nat → Option (Option (Nat × PV × Nat))
 | [],_ => some none
 | (x,v,born) :: r,i => match q33 k x with
  | some true => some (some (i,v,born))
  | some false => findKey k r (i + 1)
  | none => none
def kv (t : TI) : PV := if t.isAgg then .agg t.zero else t.zero.headD .nilptr
def q1n (m : AV) (k : PV) (H : Heap) : Option (Option (Nat × PV × Nat)) :=
 match m with
 | .pv .nilmap => some none
 | .map β => match H.get β with
  | some (.map es _) => findKey k es 0
  | _ => none
 | _ => none
def q0v (tk te : TI) (m k : AV) (ok : Bool) (H : Heap) : Option AV :=
 match k with
 | .pv k => if zf tk.td k then match q1n m k H with
  | some (some (_,v,_)) => some (if ok then .tup [.pv v,.pv (.bool true)] else .pv v)
  | some none => some (if ok then .tup [.pv (kv te),.pv (.bool false)] else .pv (kv te))
  | none => none
  else none
 | _ => none
def q4c (k : PV) : List (PV × AV × Nat) → Nat → Option (Option (Nat × AV × Nat))
 | [],_ => some none
 | (x,v,born) :: r,i => match q33 k x with
  | some true => some (some (i,v,born))
  | some false => q4c k r (i + 1)
  | none => none
def q2k (tk te : TI) (m k : AV) (ok : Bool) (H : Heap) : Option AV :=
 match m,k with
 | .qj β,.pv k => if zf tk.td k then match H.get β with
  | some (.qj es _) => match q4c k es 0 with
   | some (some (_,v,_)) => some (if ok then .tup [v,.pv (.bool true)] else v)
   | some none => some (if ok then .tup [.pv (kv te),.pv (.bool false)] else .pv (kv te))
   | none => none
  | _ => none
  else none
 | _,_ => none
def q1m (tk : TI) (m k v : AV) (H : Heap) : Option (List (Nat × Blk)) :=
 match m,k with
 | .qj β,.pv k => if zf tk.td k then match H.get β with
  | some (.qj es clock) => match q4c k es 0 with
   | some (some (i,_,born)) => some [(β,.qj (es.set i (k,v,born)) clock)]
   | some none => some [(β,.qj (es ++ [(k,v,clock)]) (clock + 1))]
   | none => none
  | _ => none
  else none
 | _,_ => none
def gu (tk : TI) (m k : AV) (v : PV) (H : Heap) : Option (List (Nat × Blk)) :=
 match m,k with
 | .map β,.pv k => if zf tk.td k then match H.get β with
  | some (.map es clock) => match findKey k es 0 with
   | some (some (i,_,born)) => some [(β,.map (es.set i (k,v,born)) clock)]
   | some none => some [(β,.map (es ++ [(k,v,clock)]) (clock + 1))]
   | none => none
  | _ => none
  else none
 | _,_ => none
def mg (tk te : TI) (m k : AV) (H : Heap) : Option (AV × List (Nat × Blk)) :=
 match m,k with
 | .map β,.pv k => if zf tk.td k then match H.get β with
  | some (.map es clock) => match findKey k es 0 with
   | some (some (i,v,born)) => some (.tup [.pv v,.pv (.int .i64 born)],[(β,.map (es.set i (k,v,born)) clock)])
   | some none => some (.tup [.pv (kv te),.pv (.int .i64 clock)],[(β,.map (es ++ [(k,kv te,clock)]) (clock + 1))])
   | none => none
  | _ => none
  else none
 | _,_ => none
def q4d (born : Int) : List (PV × PV × Nat) → Nat → Option (Nat × PV × Nat)
 | [],_ => none
 | (k,_,b) :: r,i => if (b : Int) = born then some (i,k,b) else q4d born r (i + 1)
def ug (m st : AV) (v : PV) (H : Heap) : Option (List (Nat × Blk)) :=
 match m,st with
 | .map β,.pv (.int _ born) => match H.get β with
  | some (.map es clock) => match q4d born es 0 with
   | some (i,k,b) => some [(β,.map (es.set i (k,v,b)) clock)]
   | none => none
  | _ => none
 | _,_ => none
def ng (tk : TI) (m k : AV) (H : Heap) : Option (List (Nat × Blk)) :=
 match m,k with
 | .pv .nilmap,.pv k => if zf tk.td k then some [] else none
 | .map β,.pv k => if zf tk.td k then match H.get β with
  | some (.map es clock) => match findKey k es 0 with
   | some (some (i,_,_)) => some [(β,.map (es.eraseIdx i) clock)]
   | some none => some [(β,.map es clock)]
   | none => none
  | _ => none
  else none
 | _,_ => none
def q1g (x : AV) (H : Heap) : Option Nat :=
 match x with
 | .pv (.str s) => some s.length
 | .pv (.sl _ _ es) => some es.length
 | .pv .nilmap => some 0
 | .zsl => some 0
 | .row β ver _ n => match H.get β with
  | some (.row _ _ es) => if ver = es.length then some n else none
  | some (.ql _ es) => if ver = es.length then some n else none
  | some (.za _ _ _ es) => if ver = es.length then some n else none
  | some (.qh _ _ es _) => if ver = es.length then some n else none
  | _ => none
 | .map β => match H.get β with
  | some (.map es _) => some es.length
  | _ => none
 | _ => none
def q29 (isMax : Bool) (k : IntKind) : Int → List AV → Option PV
 | a,[] => some (.int k a)
 | a,.pv (.int _ b) :: r => q29 isMax k (if isMax then (if b > a then b else a) else (if b < a then b else a)) r
 | _,_ => none
def q42 (isMax : Bool) : List AV → Option PV
 | .pv (.int k a) :: r => q29 isMax k a r
 | [.pv (.str a),.pv (.str b)] => if isMax = true then some (.str (if wh a b = true then b else a)) else none
 | _ => none
def q2u (td : TD) (esz : TypeId → Option TI) (l c : AV) (nx : Nat) : Option Eff :=
 match td with
 | .slice e => match esz e,zy l,zy c with
  | some te,some n,some n' =>
   if n' = n ∧ 0 < te.size ∧ j5 n te.bytes = true then some (.row nx (List.replicate n te.zero).length 0 (List.replicate n te.zero).length,[(nx,.row false te.size (List.replicate n te.zero))],nx + 1) else none
  | _,_,_ => none
 | _ => none
def AV.refs : AV → List Nat
 | .ptr β _ | .eptr β _ _ _ | .row β _ _ _ | .map β | .qj β => [β]
 | .agg c => refsL c
 | .tup c => refsL c
 | .clo _ a b => refsL a ++ refsL b
 | _ => []
where refsL : List AV → List Nat
 | [] => []
 | v :: r => v.refs ++ refsL r
def AV.rows : AV → List Nat
 | .row β _ _ _ => [β]
 | .agg c => rowsL c
 | .tup c => rowsL c
 | _ => []
where rowsL : List AV → List Nat
 | [] => []
 | v :: r => v.rows ++ rowsL r
def AV.thaw (β : Nat) (isnil : Bool) (sz : Nat) (es : List (List PV)) : AV → AV
 | .row β' ver off n => if β' = β ∧ ver = es.length then .pv (q38 isnil sz ((es.drop off).take n)) else .row β' ver off n
 | .agg c => q17 (thawL c)
 | .tup c => .tup (thawL c)
 | .clo f a b => .clo f (thawL a) (thawL b)
 | v => v
where thawL : List AV → List AV
 | [] => []
 | v :: r => AV.thaw β isnil sz es v :: thawL r
def Blk.thaw (β : Nat) (isnil : Bool) (sz : Nat) (es : List (List PV)) : Blk → Blk
 | .box c => .box (AV.thaw.thawL β isnil sz es c)
 | .ql sz' es' => .ql sz' (es'.map (AV.thaw.thawL β isnil sz es))
 | .z8 t c => .z8 t (AV.thaw.thawL β isnil sz es c)
 | .qj es' c => .qj (es'.map fun e => (e.1,e.2.1.thaw β isnil sz es,e.2.2)) c
 | b => b
def freeze (β : Nat) (s : St) : St :=
 match s.heap.get β with
 | some (.row isnil sz es) =>
  { s with env := s.env.map (fun (t,v) => (t,v.thaw β isnil sz es)),heap := Heap.put (s.heap.map fun (i,b) => (i,b.thaw β isnil sz es)) β .dead }
 | some (.qh isnil _ es none) =>
  { s with env := s.env.map (fun (t,v) => (t,v.thaw β isnil 1 (es.map fun p => [p]))),heap := Heap.put (s.heap.map fun (i,b) => (i,b.thaw β isnil 1 (es.map fun p => [p]))) β .dead }
 | _ => s
def freezes : List Nat → St → St
 | [],s => s
 | β :: r,s => freezes r (freeze β s)
def q80 (es : List (List PV)) : Bool := es.all fun e => e.all PV.bn
def q6j (isnil : Bool) (d : Nat) (ds : List Nat) (es : List (List PV)) : Option Blk :=
 match ds with
 | [] => some (.row isnil d es)
 | _ :: _ => if d = 1 then some (.qh isnil ds es.flatten none) else none
def q74 (H : Heap) (nx β i : Nat) : Option (Heap × Nat × Nat) :=
 match H.get β with
 | some (.qh false dims es none) => match dims with
  | d :: ds => match es[i]? with
   | some (.sl isnil _ es') => match q6j isnil d ds es' with
    | some b => some (Heap.put (Heap.put H β (.qh false (d :: ds) es (some (i,nx,es'.length)))) nx b,nx + 1,nx)
    | none => none
   | _ => none
  | [] => none
 | some (.qh false _ _ (some x)) => if x.1 = i then some (H,nx,x.2.1) else none
 | _ => none
def q0r (H : Heap) (nx β : Nat) : List Nat → Heap × Nat
 | [] => (H,nx)
 | i :: r => match q74 H nx β i with
  | some (H',nx',γ) => q0r H' nx' γ r
  | none => (H,nx)
def q4i (d : Nat) (ds : List Nat) (ver : Nat) : Blk → Option PV
 | .row isnil sz es => match ds with
  | [] => if ver = es.length ∧ (isnil = true ∨ sz = d) ∧ q80 es = true then some (.sl isnil (szc d es) es) else none
  | _ :: _ => none
 | .qh isnil ds' es none => match ds with
  | [] => none
  | _ :: _ => if ds' = ds ∧ d = 1 ∧ ver = es.length then some (.sl isnil (szc d (es.map fun p => [p])) (es.map fun p => [p])) else none
 | _ => none
def q4e (H : Heap) (β : Nat) : Heap :=
 match H.get β with
 | some (.qh false (d :: ds) es (some (i,γ,ver))) => match H.get γ with
  | some b => match q4i d ds ver b with
   | some p => Heap.put (Heap.put H β (.qh false (d :: ds) (es.set i p) none)) γ .dead
   | none => H
  | none => H
 | _ => H
def q2y : Nat → Heap → Nat → Heap
 | 0,H,_ => H
 | n + 1,H,β => match H.get β with
  | some (.qh _ _ _ (some x)) => q4e (q2y n H x.2.1) β
  | _ => H
def yz (s : St) (t : Nat) : AV :=
 if t < 1000 then s.env.get t else match s.env.get (t % 1000) with
  | .ptr β o => match s.heap.get β with
   | some (.box c) => match c[o + (t / 1000 - 1)]? with | some v => v | none => .undef
   | _ => .undef
  | _ => .undef
def qbg (s : St) : List Nat → Option (List Nat)
 | [] => some []
 | t :: r => match zy (yz s t),qbg s r with
  | some n,some l => some (n :: l)
  | _,_ => none
def q3p (s : St) (t : Nat) (v : AV) : St :=
 if t < 1000 then { s with env := (t,v) :: s.env } else match s.env.get (t % 1000) with
  | .ptr β o => match s.heap.get β with
   | some (.box c) => if o + (t / 1000 - 1) < c.length then { s with heap := Heap.put s.heap β (.box (c.set (o + (t / 1000 - 1)) v)) } else s
   | _ => s
  | _ => s
def q4v (n : Nat) : Blk → Option (Nat × Blk)
 | .row false sz es => if n ≤ es.length then some (es.length,.row false sz (es.take n)) else none
 | .qh isnil dims es none => if n ≤ es.length then some (es.length,.qh isnil dims (es.take n) none) else none
 | _ => none
def q3h : List Nat → Blk
 | [] => .row true 0 []
 | d :: ds => .qh true (d :: ds) [] none
def q9n (s : St) : AV → List Nat
 | .ptr β _ => match s.heap.get β with
  | some (.box c) => AV.rows.rowsL c
  | _ => []
 | v => v.rows
def nk (c : Cmd) (s : St) : St :=
 match c with
 | .focus t is => match yz s t,qbg s is with
  | .row β _ 0 _,some l => { s with heap := (q0r s.heap s.nx β l).1,nx := (q0r s.heap s.nx β l).2 }
  | _,_ => s
 | .pack t => match yz s t with
  | .row β _ _ _ => { s with heap := q2y 4 s.heap β }
  | _ => s
 | .cut t => match yz s t with
  | .row β ver 0 n => match s.heap.get β with
   | some b => match q4v n b with
    | some (l,y) => if ver = l then q3p { s with heap := Heap.put (Heap.put s.heap β .dead) s.nx y,nx := s.nx + 1 } t (.row s.nx n 0 n) else s
    | none => s
   | none => s
  | _ => s
 | .prom t dims => match yz s t with
  | .pv (.sl true _ []) => q3p { s with heap := Heap.put s.heap s.nx (q3h dims),nx := s.nx + 1 } t (.row s.nx 0 0 0)
  | _ => s
 | .frz t => freezes (q9n s (yz s t)) s
def zh : List Cmd → St → St
 | [],s => s
 | c :: r,s => zh r (nk c s)
end Go.Gm
namespace Go.Gm
open Go
inductive Ex where
 | normal
 | ret
 | exit (id : Nat)
 deriving DecidableEq,Inhabited
structure qw where
 call : FuncId → List AV → Heap → Option (AV × Heap)
 loop : FuncId → Nat → St → Option (Ex × St)
def AV.ren (g : Nat → Nat) : AV → AV
 | .ptr β o => .ptr (g β) o
 | .eptr β v i o => .eptr (g β) v i o
 | .row β v off n => .row (g β) v off n
 | .map β => .map (g β)
 | .qj β => .qj (g β)
 | .agg c => .agg (renL g c)
 | .tup c => .tup (renL g c)
 | .clo f a b => .clo f (renL g a) (renL g b)
 | v => v
where renL (g : Nat → Nat) : List AV → List AV
 | [] => []
 | v :: r => AV.ren g v :: renL g r
def Blk.ren (g : Nat → Nat) : Blk → Blk
 | .qh isnil dims es foc => .qh isnil dims es (foc.map fun x => (x.1,g x.2.1,x.2.2))
 | .box c => .box (AV.ren.renL g c)
 | .ql sz es => .ql sz (es.map (AV.ren.renL g))
 | .z8 t c => .z8 t (AV.ren.renL g c)
 | .qj es c => .qj (es.map fun e => (e.1,e.2.1.ren g,e.2.2)) c
 | b => b
def Blk.refs : Blk → List Nat
 | .qh _ _ _ foc => match foc with | some x => [x.2.1] | none => []
 | .box c => AV.refs.refsL c
 | .ql _ es => es.flatMap AV.refs.refsL
 | .z8 _ c => AV.refs.refsL c
 | .qj es _ => es.flatMap fun e => e.2.1.refs
 | _ => []
def pos : List Nat → Nat → Nat
 | [],_ => 0
 | β :: r,x => if β = x then 0 else pos r x + 1
def u6 : List Nat → Nat → Bool
 | [],_ => false
 | β :: r,x => if β = x then true else u6 r x
def pz : List Nat → List Nat → Bool
 | [],_ => true
 | x :: r,L => u6 L x && pz r L
def jh (H : Heap) (β : Nat) : Blk := match H.get β with | some b => b | none => .dead
def reach (H : Heap) : Nat → List Nat → List Nat → List Nat
 | 0,_,d => d
 | _ + 1,[],d => d
 | n + 1,β :: r,d => if u6 d β then reach H n r d else reach H n (r ++ (jh H β).refs) (d ++ [β])
def closedIn (H : Heap) (L : List Nat) : List Nat → Bool
 | [] => true
 | β :: r => (match H.get β with | some b => pz b.refs L | none => false) && closedIn H L r
def pick (H : Heap) (g : Nat → Nat) : Nat → List Nat → Heap
 | _,[] => []
 | i,β :: r => (i,(jh H β).ren g) :: pick H g (i + 1) r
def gp (H : Heap) (d : List Nat) (roots : List Nat) : Option (List Nat × Heap) :=
 match roots,d with
 | [],[] => some ([],[])
 | roots,d =>
  let L := reach H 400 (roots ++ d.flatMap fun β => (jh H β).refs) d
  if pz roots L && closedIn H L L then some (L,pick H (pos L) 0 L) else none
def qf : List (Nat × Blk) → Heap → Heap
 | [],H => H
 | (i,b) :: r,H => qf r (Heap.put H i b)
def backTo (L : List Nat) (nx : Nat) (j : Nat) : Nat := match L[j]? with | some β => β | none => nx + (j - L.length)
def xu (g : Nat → Nat) : Heap → List (Nat × Blk)
 | [] => []
 | (i,b) :: r => (g i,b.ren g) :: xu g r
def xk : Nat → Heap → Bool
 | _,[] => true
 | i,(j,_) :: r => decide (j = i) && xk (i + 1) r
def ve (O : qw) (f : FuncId) (args : List AV) (H : Heap) (nx : Nat) : Option Eff :=
 match gp H [] (AV.refs.refsL args) with
 | none => none
 | some (L,H0) =>
  match O.call f (AV.ren.renL (pos L) args) H0 with
  | none => none
  | some (v,H') => if xk 0 H' = true then some (v.ren (backTo L nx),xu (backTo L nx) H',nx + (H'.length - L.length)) else none
def orT : Option Eff → Option Eff → Option Eff
 | some r,_ => some r
 | none,y => y
def p9 (G : GP) (b : Builtin) (tys : List TypeId) (args : List AV) (H : Heap) (nx : Nat) : Option Eff :=
 match b,tys,args with
 | .len,t :: _,[x] => match G.ti t with
  | some ti => if q0a ti.td x = true then match q1g x H with | some n => some (.pv (.int .i64 n),[],nx) | none => none else none
  | none => none
 | .unsafeSliceData,_,[x] => q1b x H nx
 | .unsafeString,tp :: _,[p,x] => match G.ti tp with
  | some ti => match ti.pe with
   | some el => match G.ti el with | some tel => if tel.size = 1 then q0n el p x H nx else none | none => none
   | none => none
  | none => none
 | .max,_,l => match q42 true l with | some p => some (.pv p,[],nx) | none => none
 | .min,_,l => match q42 false l with | some p => some (.pv p,[],nx) | none => none
 | .append,ts :: tx :: _,[s,x] => match G.ti ts,G.ti tx with
  | some ti,some tix => match ti.td,tix.td with
   | .slice e,.slice _ => match G.ti e with | some te => orT (jk te s x H nx) (orT (wu e te s x H nx) (u7 te s x H nx)) | none => none
   | .slice e,.string => match G.ti e with | some te => orT (jk te s x H nx) (orT (wu e te s x H nx) (u7 te s x H nx)) | none => none
   | _,_ => none
  | _,_ => none
 | .copy,ts :: _,[s,x] => match G.ti ts with
  | some ti => match ti.td with
   | .slice e => match G.ti e with | some te => tu te s x H nx | none => none
   | _ => none
  | none => none
 | .delete,tm :: _,[m,k] => match G.ti tm with
  | some ti => match ti.td with
   | .map tk _ => match G.ti tk with
    | some tk => match ng tk m k H with | some ws => some (.tup [],ws,nx) | none => none
    | none => none
   | _ => none
  | none => none
 | _,_,_ => none
def q1j (G : GP) (t : TypeId) : Option (TI × TI) :=
 match G.ti t with
 | some ti => match ti.td with
  | .map k e => match G.ti k,G.ti e with
   | some tk,some te => some (tk,te)
   | _,_ => none
  | _ => none
 | none => none
def wo (ws : Option (List (Nat × Blk))) (nx : Nat) : Option Eff := match ws with | some ws => some (.tup [],ws,nx) | none => none
def xz (v : Option AV) (nx : Nat) : Option Eff := match v with | some v => some (v,[],nx) | none => none
def q14 (v : Option PV) (nx : Nat) : Option Eff := match v with | some v => some (.pv v,[],nx) | none => none
def isBytes (G : GP) (t : TypeId) : Bool :=
 match G.ti t with
 | some ti => match ti.td with
  | .slice e => match G.ti e with
   | some te => match te.td with
    | .int .u8 => true
    | _ => false
   | none => false
  | _ => false
 | none => false
def q41 (G : GP) (t : TypeId) (ti : TI) (nx : Nat) : Option Eff :=
 match ti.td,ti.zero with
 | .struct [(0,1,_),(1,1,tf)],[.nilptr,.sl true _ []] => match G.ti tf with
  | some tif => match tif.td with
   | .slice e => some (.ptr (nx + 1) 0,[(nx,.za e true 0 []),(nx + 1,.z8 t [.pv .nilptr,.row nx 0 0 0])],nx + 2)
   | _ => none
  | none => none
 | _,_ => none
def q03 (G : GP) (t : TypeId) (x : AV) (H : Heap) (nx : Nat) : Option Eff :=
 match x with
 | .row β ver off n => match H.get β with
  | some (.row false _ es) => if isBytes G t = true ∧ ver = es.length ∧ 0 < n then some (.row β ver off n,[],nx) else none
  | _ => none
 | _ => none
def q4b (G : GP) (t : TypeId) (m k x : AV) (H : Heap) (nx : Nat) : Option Eff :=
 match q1j G t with
 | some (tk,te) => if x.slc = true then wo (q1m tk m k x H) nx else none
 | none => none
def q5a (frz : Bool) (c : List AV) (nx : Nat) : Option Eff :=
 if frz = true then match um c with | some l => some (.pv (.rp l),[],nx) | none => none else some (.ptr nx 0,[(nx,.box c)],nx + 1)
def aop (G : GP) (O : qw) (o : Op) (E : Env) (H : Heap) (nx : Nat) : Option Eff :=
 match o with
 | .move x => some (ev E x,[],nx)
 | .assign x => some (ev E x,[],nx)
 | .pick c a b => match ev E c with | .pv (.bool t) => some (if t then ev E a else ev E b,[],nx) | _ => none
 | .alloc t => match G.ti t with | some ti => if G.mrf t = true then q41 G t ti nx else some (.ptr nx 0,[(nx,.box (ti.zero.map .pv))],nx + 1) | none => none
 | .box t x => if (ev E x).q0s = true then q5a (G.frz t) (ev E x).cells nx else none
 | .build t parts => match G.ti t with | some ti => xz (q3f ti G.ti (ev E) parts.toList) nx | none => none
 | .buildSlice t len parts => match G.ti t with
  | some ti => match ti.td with
   | .slice e => match G.ti e with
    | some te => if 0 < te.size ∧ len * te.size ≤ 2 ^ 24 then if G.mrf t = true then (match q08 te.size (ev E) parts.toList (List.replicate len (te.zero.map .pv)) with
     | some es => some (.row nx es.length 0 es.length,[(nx,.ql te.size es)],nx + 1)
     | none => none) else match uu te.size (ev E) parts.toList (List.replicate len te.zero) with
     | some es => some (.row nx es.length 0 es.length,[(nx,.row false te.size es)],nx + 1)
     | none => none
     else none
    | none => none
   | _ => none
  | none => none
 | .load t a => match G.ti t with | some ti => xz (ni ti (ev E a) H) nx | none => none
 | .store t a x => match G.ti t with | some ti => wo (q02 ti (ev E a) (ev E x) H) nx | none => none
 | .nilCheck x => match ev E x with
  | .ptr β o => some (.ptr β o,[],nx)
  | .rptr c o => some (.rptr c o,[],nx)
  | .pv (.rp c) => some (.pv (.rp c),[],nx)
  | .eptr β v i o => some (.eptr β v i o,[],nx)
  | .pv (.fn f) => some (.pv (.fn f),[],nx)
  | .clo f a b => some (.clo f a b,[],nx)
  | _ => none
 | .binOp op t x y _ => match G.ti t with | some ti => q14 (q1o G.ti op ti (ev E x) (ev E y) H) nx | none => none
 | .unOp op _ x => q14 (aUn op (ev E x)) nx
 | .convert s d x => if s = d then q03 G s (ev E x) H nx else match G.ti s,G.ti d with | some ts,some td => q0e ts.td td.td G.ti (ev E x) H nx | _,_ => none
 | .makeFunc (.func f) a b => some (match a.toList,b.toList with | [],[] => .pv (.fn f) | a,b => .clo f (a.map (ev E)) (b.map (ev E)),[],nx)
 | .makeMap t none => if G.mrf t = true then some (.qj nx,[(nx,.qj [] 0)],nx + 1) else some (.map nx,[(nx,.map [] 0)],nx + 1)
 | .slice t x lo hi mx => match G.ti t with | some ti => xz (bq ti.td G.ti (ev E) (ev E x) lo hi mx H) nx | none => none
 | .fieldAddr t x f => match G.ti t with | some ti => xz (q4m ti.td (ev E x) f) nx | none => none
 | .field t x f => match G.ti t with
  | some ti => match ti.td with
   | .struct fs => match fs[f]? with
    | some (off,_,tf) => match G.ti tf with | some tif => xz (q3t tif (ev E x) off) nx | none => none
    | none => none
   | _ => none
  | none => none
 | .indexAddr t x i => match G.ti t with | some ti => xz (q2i ti.td G.ti (ev E x) (ev E i) H) nx | none => none
 | .index t x i => match G.ti t with
  | some ti => match ti.td,ev E x,zy (ev E i) with
   | .string,.pv (.str s),some k => match s[k]? with | some b => some (.pv (.int .u8 b.toNat),[],nx) | none => none
   | .array len e,x,some k => if k < len then match G.ti e with | some te => xz (q3t te x (k * te.size)) nx | none => none else none
   | _,_,_ => none
  | none => none
 | .lookup t m k ok => match q1j G t with | some (tk,te) => xz (if G.mrf t = true then q2k tk te (ev E m) (ev E k) ok H else q0v tk te (ev E m) (ev E k) ok H) nx | none => none
 | .mapUpdate t m k x => if G.mrf t = true then q4b G t (ev E m) (ev E k) (ev E x) H nx else match q1j G t,q2a (ev E x) with
  | some (tk,te),some p => if p.cells.length = te.size then wo (gu tk (ev E m) (ev E k) p H) nx else none
  | _,_ => none
 | .insert t m k x => match q1j G t,q2a (ev E x) with
  | some (tk,te),some p => if p.cells.length = te.size then wo (gu tk (ev E m) (ev E k) p H) nx else none
  | _,_ => none
 | .mapEntry t m k => match q1j G t with
  | some (tk,te) => match mg tk te (ev E m) (ev E k) H with | some (v,ws) => some (v,ws,nx) | none => none
  | none => none
 | .entryStore _ m st x => match q2a (ev E x) with | some p => wo (ug (ev E m) (ev E st) p H) nx | none => none
 | .extract t i => match ev E t with
  | .tup l => match l[i]? with | some v => some (v,[],nx) | none => none
  | _ => none
 | .call { callee := .builtin b,args,argTypes } => p9 G b argTypes.toList (args.toList.map (ev E)) H nx
 | .call { callee := .value f,args,.. } => match ev E f with
  | .pv (.fn f) => ve O f (args.toList.map (ev E)) H nx
  | .clo f a b => ve O f (a ++ args.toList.map (ev E) ++ b) H nx
  | _ => none
 | .makeSlice t l c => match G.ti t with | some ti => q2u ti.td G.ti (ev E l) (ev E c) nx | none => none
 | _ => none
def needs (G : GP) (o : Op) (E : Env) : List Nat :=
 match o with
 | .store _ a x => match ev E a with | .eptr _ _ _ _ => (ev E x).rows | _ => []
 | .buildSlice t _ parts => if G.mrf t then [] else AV.rows.rowsL (parts.toList.map fun x => ev E x.2)
 | .mapUpdate _ _ _ x => (ev E x).rows
 | .insert _ _ _ x => (ev E x).rows
 | .entryStore _ _ _ x => (ev E x).rows
 | .call { callee := .value f,args,.. } => match ev E f with
  | .pv (.fn f) => if G.owned f then [] else AV.rows.rowsL (args.toList.map (ev E))
  | .clo f _ _ => if G.owned f then [] else AV.rows.rowsL (args.toList.map (ev E))
  | _ => []
 | _ => []
def guardOf (all : List Oper) (o : Oper) (E : Env) : Option Bool :=
 match o.guard with
 | none => some true
 | some (j,want) => match all[j]? with
  | some oj => match oj.dst with
   | some d => match E.get d with
    | .pv (.bool b) => some (b == want)
    | .tup [] => some false
    | _ => none
   | none => some false
  | none => some false
def zz (d : Option Tmp) (v : AV) (E : Env) : Env := match d with | some d => (d,v) :: E | none => E
def q0c (G : GP) (O : qw) (o : Oper) (s : St) : Option St :=
 match aop G O o.op s.env s.heap s.nx with
 | some (v,ws,nx) => some { env := zz o.dst v s.env,heap := qf ws s.heap,nx := nx }
 | none => none
def vg (G : GP) (O : qw) (all : List Oper) : List Oper → St → Option St
 | [],s => some s
 | o :: r,s =>
  match guardOf all o s.env with
  | some true => match q0c G O o (freezes (needs G o.op s.env) s) with
   | some s' => vg G O all r s'
   | none => none
  | some false => vg G O all r { s with env := zz o.dst (.tup []) s.env }
  | none => none
def touched (o : Op) (E : Env) (H : Heap) : List Nat :=
 match o with
 | .load _ a => (ev E a).refs
 | .store _ a _ => (ev E a).refs
 | .binOp _ _ x y _ => (ev E x).refs ++ (ev E y).refs
 | .convert _ _ x => (ev E x).refs
 | .slice _ x _ _ _ => (ev E x).refs
 | .indexAddr _ x _ => (ev E x).refs
 | .lookup _ m _ _ => (ev E m).refs
 | .mapUpdate _ m _ _ => (ev E m).refs
 | .insert _ m _ _ => (ev E m).refs
 | .mapEntry _ m _ => (ev E m).refs
 | .entryStore _ m _ _ => (ev E m).refs
 | .call { callee := .builtin _,args,.. } => AV.refs.refsL (args.toList.map (ev E))
 | .call { callee := .value f,args,.. } => match ev E f with
  | .pv (.fn _) => reach H 400 (AV.refs.refsL (args.toList.map (ev E))) []
  | .clo _ a b => reach H 400 (AV.refs.refsL (a ++ args.toList.map (ev E) ++ b)) []
  | _ => []
 | _ => []
def q4u (ms : List Nat) (o : Oper) : Nat := o.after.toList.foldl (fun m e => if Region.binds .any e = true then m ||| (1 <<< e.on) ||| ms.getD e.on 0 else m) 0
def kr (ms : List Nat) : List Oper → List Nat
 | [] => ms
 | o :: r => kr (ms ++ [q4u ms o]) r
def ordered (ms : List Nat) (i j : Nat) : Bool := (ms.getD j 0).testBit i
def disj : List Nat → List Nat → Bool
 | [],_ => true
 | x :: r,L => !u6 L x && disj r L
def q52 (ms : List Nat) (j : Nat) (rd wr : List Nat) : List (Nat × List Nat × List Nat) → Bool
 | [] => true
 | (i,rdi,wri) :: r => (ordered ms i j || (disj wri rd && disj wri wr && disj rdi wr)) && q52 ms j rd wr r
def uw (ms : List Nat) : List (Nat × List Nat × List Nat) → Bool
 | [] => true
 | (j,rd,wr) :: r => q52 ms j rd wr r && uw ms r
mutual
def PV.same : PV → PV → Bool
 | .bool a,.bool b => a == b
 | .int k a,.int l b => decide (k = l) && decide (a = b)
 | .str a,.str b => decide (a = b)
 | .agg a,.agg b => PV.jq a b
 | .sl n z a,.sl m y b => n == m && decide (z = y) && PV.w9 a b
 | .nilptr,.nilptr => true
 | .nilfn,.nilfn => true
 | .nilmap,.nilmap => true
 | .nilif,.nilif => true
 | .fn f,.fn g => decide (f = g)
 | .rp a,.rp b => PV.jq a b
 | _,_ => false
def PV.jq : List PV → List PV → Bool
 | [],[] => true
 | x :: r,y :: q => PV.same x y && PV.jq r q
 | _,_ => false
def PV.w9 : List (List PV) → List (List PV) → Bool
 | [],[] => true
 | x :: r,y :: q => PV.jq x y && PV.w9 r q
 | _,_ => false
end
def AV.same : AV → AV → Bool
 | .pv a,.pv b => PV.same a b
 | .ptr b o,.ptr c q => decide (b = c) && decide (o = q)
 | .row b v o n,.row c w q m => decide (b = c) && decide (v = w) && decide (o = q) && decide (n = m)
 | .zsl,.zsl => true
 | .map b,.map c => decide (b = c)
 | .qj b,.qj c => decide (b = c)
 | _,_ => false
def AV.jq : List AV → List AV → Bool
 | [],[] => true
 | x :: r,y :: q => AV.same x y && AV.jq r q
 | _,_ => false
def AV.w9 : List (List AV) → List (List AV) → Bool
 | [],[] => true
 | x :: r,y :: q => AV.jq x y && AV.w9 r q
 | _,_ => false
def Blk.same : Blk → Blk → Bool
 | .box a,.box b => AV.jq a b
 | .z8 t a,.z8 u b => decide (t = u) && AV.jq a b
 | .row n z a,.row m y b => n == m && decide (z = y) && PV.w9 a b
 | .za e n z a,.za f m y b => decide (e = f) && n == m && decide (z = y) && PV.w9 a b
 | .ql z a,.ql y b => decide (z = y) && AV.w9 a b
 | .dead,.dead => true
 | _,_ => false
def leftAs (H : Heap) (β : Nat) (b : Blk) : Bool := match H.get β with | some c => Blk.same c b | none => false
def trim (rd : List Nat) : Heap → List (Nat × Blk) → List (Nat × Blk)
 | _,[] => []
 | H,(β,b) :: r => if u6 rd β && leftAs H β b then trim rd H r else (β,b) :: trim rd (H.put β b) r
def mq (tm : Bool) (rd : List Nat) (H : Heap) (ws : List (Nat × Blk)) : List (Nat × Blk) := match tm with | true => trim rd H ws | false => ws
def q0x : List Nat → Bool
 | [] => false
 | x :: r => x == 999999 || q0x r
def ku (G : GP) (O : qw) (all : List Oper) (tm : Bool) : Nat → List Oper → St → List (Nat × List Nat × List Nat) → Option St
 | _,[],s,log => if uw (kr [] all) log = true then some s else none
 | i,o :: r,s,log =>
  match guardOf all o s.env with
  | some true => match aop G O o.op s.env s.heap s.nx with
   | some (v,ws,nx) => ku G O all tm (i + 1) r ⟨zz o.dst v s.env,qf (mq tm (touched o.op s.env s.heap) s.heap ws) s.heap,nx⟩ ((i,touched o.op s.env s.heap,(mq tm (touched o.op s.env s.heap) s.heap ws).map (·.1)) :: log)
   | none => none
  | some false => ku G O all tm (i + 1) r { s with env := zz o.dst (.tup []) s.env } log
  | none => none
def restrict (E : Env) : List Nat → Env
 | [] => []
 | t :: r => (t,E.get t) :: restrict E r
def setEnv : Env → Nat → AV → Env
 | [],n,x => [(n,x)]
 | (i,v) :: r,n,x => if i = n then (i,x) :: r else (i,v) :: setEnv r n x
def zq : List Nat → St → St
 | [],s => s
 | t :: r,s => match s.env.get t with
  | .pv (.sl true _ []) => zq r { env := setEnv s.env t (.row s.nx 0 0 0),heap := Heap.put s.heap s.nx (.row true 0 []),nx := s.nx + 1 }
  | _ => zq r s
def zl : List (Nat × Nat) → St → St
 | [],s => s
 | (t,k) :: r,s => match s.env.get t with
  | .ptr β o => match s.heap.get β with
   | some (.box c) => match c[o + k]? with
    | some (.pv (.sl true _ [])) =>
     zl r { env := s.env,heap := Heap.put (Heap.put s.heap s.nx (.row true 0 [])) β (.box (c.set (o + k) (.row s.nx 0 0 0))),nx := s.nx + 1 }
    | _ => zl r s
   | _ => zl r s
  | _ => zl r s
def qas (H : Heap) : AV → List Nat
 | .ptr β _ => match H.get β with
  | some (.box c) => AV.rows.rowsL c
  | _ => []
 | v => v.rows
def qam (H : Heap) (k : Nat) : AV → List Nat
 | .ptr β o => match H.get β with
  | some (.box c) => match c[o + k]? with | some v => v.rows | none => []
  | _ => []
 | _ => []
def yw (E : Env) (H : Heap) : List Nat → List Nat
 | [] => []
 | t :: r => (if t < 1000 then qas H (E.get t) else qam H (t / 1000 - 1) (E.get (t % 1000))) ++ yw E H r
def enter (sp : xy) (s : St) : St :=
 let s1 := zl sp.zl (zq sp.zq s)
 let s2 := freezes (yw s1.env s1.heap sp.freeze) s1
 { s2 with env := restrict s2.env sp.live }
def q0q (n : Nat) : List Nat → Bool
 | [] => true
 | x :: r => decide (x < n) && q0q n r
def Env.below (n : Nat) : Env → Bool
 | [] => true
 | (_,v) :: r => q0q n v.refs && Env.below n r
def Heap.upto (n : Nat) : Heap → Heap
 | [] => []
 | (i,b) :: r => if i < n then (i,b) :: Heap.upto n r else Heap.upto n r
def Heap.below (n : Nat) : Heap → Bool
 | [] => true
 | (_,b) :: r => q0q n b.refs && Heap.below n r
def narrow (slots : List Nat) (n : Nat) (s : St) : Option St :=
 let E := restrict s.env slots
 let H := Heap.upto n s.heap
 if Env.below n E && Heap.below n H then some ⟨E,H,n⟩ else none
def q2l (slots : List Nat) (n : Nat) (s : St) : St :=
 match narrow slots n s with
 | some s' => s'
 | none => { s with env := restrict s.env slots }
def q2g (g : Nat → Nat) : Env → Env
 | [] => []
 | (t,v) :: r => (t,v.ren g) :: q2g g r
def q3a : Env → List Nat
 | [] => []
 | (_,v) :: r => v.refs ++ q3a r
def canon (slots : List Nat) (n : Nat) (s : St) : Option St :=
 match gp s.heap (List.range n) (q3a (restrict s.env slots)) with
 | some (L,H') => some ⟨q2g (pos L) (restrict s.env slots),H',H'.length⟩
 | none => none
def yu (sp : xy) (s : St) : Option St :=
 if sp.own = 1000 then some (enter sp s) else
 match sp.own with
 | 0 => some (enter sp s)
 | k + 1 => match canon sp.live s.nx (enter sp s) with
  | some s1 => if s1.nx = s.nx + (k + 1) then some s1 else none
  | none => none
def kept (sp : xy) (n : Nat) (s : St) : Option St := if n ≤ s.nx then some { s with env := restrict s.env sp.live } else none
def again (sp : xy) (n : Nat) (s' : St) : Option St :=
 if sp.own = 1000 then kept sp n (zl sp.zl (zq sp.zq s')) else
 match sp.own with
 | 0 => narrow sp.live n s'
 | k + 1 => match canon sp.live (n - (k + 1)) (zl sp.zl (zq sp.zq s')) with
  | some s1 => if s1.nx = n then some s1 else none
  | none => none
def leave (sp : xy) (n : Nat) (s' : St) : Option St :=
 if sp.own = 1000 then some { s' with env := restrict s'.env sp.out } else
 match sp.own with
 | 0 => some (q2l sp.out n s')
 | k + 1 => canon sp.out (n - (k + 1)) s'
def left (ex : Ex) : Option St → Option (Ex × St)
 | some s => some (ex,s)
 | none => none
def zg : Code → Nat → Option Code
 | .seq a b,i => match zg a i with | some c => some c | none => zg b i
 | .block id (.loop c),i => if id = i then some c else zg c i
 | .block _ c,i => zg c i
 | .cond _ a b,i => match zg a i with | some c => some c | none => zg b i
 | .loop c,i => zg c i
 | _,_ => none
def q50 (G : GP) (f : FuncId) (id : Nat) (s : St) : St := freezes (yw s.env s.heap (G.pre f id)) s
def exec (G : GP) (O : qw) (f : FuncId) : Code → St → Option (Ex × St)
 | .skip,s => some (.normal,s)
 | .region id ops false,s => match vg G O ops.toList ops.toList (zh (G.cmd f (2 * id)) s) with | some s' => some (.normal,zh (G.cmd f (2 * id + 1)) s') | none => none
 | .region id ops true,s => match ku G O ops.toList (q0x (G.pre f id)) 0 ops.toList (q50 G f id (zh (G.cmd f (2 * id)) s)) [] with | some s' => some (.normal,zh (G.cmd f (2 * id + 1)) s') | none => none
 | .seq a b,s => match exec G O f a s with
  | some (.normal,s') => exec G O f b s'
  | some (.ret,s') => some (.ret,s')
  | some (.exit i,s') => some (.exit i,s')
  | none => none
 | .cond c t e,s => match ev s.env c with
  | .pv (.bool b) => match b with
   | true => exec G O f t s
   | false => exec G O f e s
  | _ => none
 | .block id (.loop _),s => match yu (G.spec f id) s with
  | some s1 => O.loop f id s1
  | none => none
 | .block id c,s => match exec G O f c s with
  | some (.exit i,s') => if i = id then some (.normal,s') else some (.exit i,s')
  | some (.normal,s') => some (.normal,s')
  | some (.ret,s') => some (.ret,s')
  | none => none
 | .exit id,s => some (.exit id,s)
 | .ret,s => some (.ret,s)
 | _,_ => none
def uf (G : GP) (O : qw) (f : FuncId) (id : Nat) (s : St) : Option (Ex × St) :=
 match G.fn f with
 | none => none
 | some fi => match zg fi.body id with
  | none => none
  | some c => match exec G O f c s with
   | some (.normal,s') => match again (G.spec f id) s.nx (freezes (yw s'.env s'.heap (G.spec f id).freeze) s') with
    | some s'' => O.loop f id s''
    | none => none
   | some (.exit i,s') => if i = id then left .normal (leave (G.spec f id) s.nx s') else left (.exit i) (leave (G.spec f id) s.nx s')
   | some (.ret,s') => left .ret (leave (G.spec f id) s.nx s')
   | none => none
def q35 (G : GP) (s : St) : ResultVar → Option AV
 | .tmp t => some (s.env.get t)
 | .cell a t => match G.ti t with | some ti => ni ti (s.env.get a) s.heap | none => none
def gm (G : GP) (s : St) : List ResultVar → Option (List AV)
 | [] => some []
 | r :: l => match q35 G s r,gm G s l with
  | some v,some vs => some (v :: vs)
  | _,_ => none
def q13 : List AV → AV
 | [v] => v
 | l => .tup l
def unz : AV → AV
 | .zsl => .pv (.sl false 0 [])
 | v => v
def finish (m : Nat) (keep : Bool) (v : AV) (s : St) : Option (AV × Heap) :=
 let s1 := if keep then { s with env := [(0,v)] } else freezes v.rows { s with env := [(0,v)] }
 let v1 := unz (s1.env.get 0)
 match gp s1.heap (List.range m) v1.refs with
 | some (L,H) => some (v1.ren (pos L),H)
 | none => none
def wz : Nat → List AV → Env
 | _,[] => []
 | i,v :: r => (i,v) :: wz (i + 1) r
def uy (G : GP) (O : qw) (f : FuncId) (args : List AV) (H : Heap) : Option (AV × Heap) :=
 match G.fn f with
 | none => none
 | some fi => if xk 0 H = true then match exec G O f fi.body ⟨wz 0 args,H,H.length⟩ with
  | some (.exit _,_) => none
  | some (_,s) => match gm G (zh (G.cmd f 999999) s) fi.results with
   | some vs => finish H.length (G.keep f) (q13 vs) (zh (G.cmd f 999999) s)
   | none => none
  | none => none
  else none
structure Special where
 call : FuncId → Option (List AV → Heap → Option (AV × Heap))
def orc (G : GP) (S : Special) : Nat → qw
 | 0 => ⟨fun _ _ _ => none,fun _ _ _ => none⟩
 | n + 1 => ⟨fun f args H => match S.call f with | some g => g args H | none => uy G (orc G S n) f args H,fun f id s => uf G (orc G S n) f id s⟩
end Go.Gm
set_option linter.unusedSectionVars false
namespace Go.Gm
open Go
def PV.flat : PV → Bool
 | .agg _ => false
 | _ => true
def AV.flat : AV → Bool
 | .pv p => p.flat
 | .agg _ | .tup _ | .undef => false
 | _ => true
def zm : Value → Bool
 | .agg _ | .tuple _ => false
 | _ => true
inductive Sk where
 | leaf
 | node (b cap : Nat) (ks : List Sk)
 deriving Inhabited
structure Pl where
 b : Nat
 cap : Nat
 ks : List Sk := []
def Pl.same (p q : Pl) : Prop := p.b = q.b ∧ p.cap = q.cap
theorem Pl.q3r (p : Pl) : p.same p := ⟨rfl,rfl⟩
theorem Pl.zdd {p q r : Pl} (h1 : p.same q) (h2 : q.same r) : p.same r := ⟨h1.1.trans h2.1,h1.2.trans h2.2⟩
def Sk.blocks : Sk → List Nat
 | .leaf => []
 | .node b _ ks => b :: ks.flatMap Sk.blocks
abbrev Plc := Nat → Pl
def xw (fz : Nat × Nat) (n : Nat) : Prop := fz.1 ≤ fz.2 ∧ ∀ i,i < n → ¬ (fz.1 ≤ i ∧ i < fz.2)
inductive RP (w : World) (Im : Nat → Prop) : PV → Value → Prop
 | bool (b : Bool) : RP w Im (.bool b) (.bool b)
 | int (k : IntKind) (n : Int) : RP w Im (.int k n) (.int k n)
 | str (l : List UInt8) : RP w Im (.str l) (.string ⟨⟨l⟩⟩)
 | agg (c : List PV) (vs : List Value) (hl : c.length = vs.length) (hf : ∀ p ∈ c,p.flat = true)
   (h : ∀ (i : Nat) p v,c[i]? = some p → vs[i]? = some v → RP w Im p v) : RP w Im (.agg c) (.agg ⟨vs⟩)
 | nilsl (sz : Nat) : RP w Im (.sl true sz []) (.slice none 0 0)
 | sl (sz : Nat) (es : List (List PV)) (b off cap : Nat) (vs : Nat → Value) (him : es ≠ [] → Im b) (hcap : es.length ≤ cap)
   (hsz : ∀ e ∈ es,e.length = sz) (hc : ∀ i,i < es.length * sz → w.cell? ⟨b,off + i,none⟩ = some (vs i))
   (hf : ∀ (i : Nat) e (j : Nat) p,es[i]? = some e → e[j]? = some p → p.flat = true)
   (h : ∀ (i : Nat) e (j : Nat) p,es[i]? = some e → e[j]? = some p → RP w Im p (vs (i * sz + j)))
   (sp : Option Nat) (hsp : es ≠ [] → sp = none) : RP w Im (.sl false sz es) (.slice (some ⟨b,off,sp⟩) es.length cap)
 | nilptr : RP w Im .nilptr (.pointer none)
 | nilfn : RP w Im .nilfn .nilFunc
 | nilmap : RP w Im .nilmap (.map none)
 | nilif : RP w Im .nilif .nilIface
 | fn (f : FuncId) : RP w Im (.fn f) (.func (.func f) #[] #[])
 | rp (c : List PV) (b off : Nat) (vs : Nat → Value) (him : Im b) (hc : ∀ i,i < c.length → w.cell? ⟨b,off + i,none⟩ = some (vs i))
   (hf : ∀ p ∈ c,p.flat = true) (h : ∀ (i : Nat) p,c[i]? = some p → RP w Im p (vs i)) : RP w Im (.rp c) (.pointer (some ⟨b,off,none⟩))
inductive jg (w : World) (Im : Nat → Prop) : List Nat → PV → Value → Sk → Prop
 | bn (p : PV) (v : Value) (hs : p.bn = true) (h : RP w Im p v) : jg w Im [] p v .leaf
 | nil (d : Nat) (ds : List Nat) : jg w Im (d :: ds) (.sl true 0 []) (.slice none 0 0) .leaf
 | sl (d : Nat) (ds : List Nat) (es : List (List PV)) (b o cap : Nat) (ks : List Sk) (vs : Array Value) (elem : TypeId) (fz : Nat × Nat) (hb : w.heap[b]? = some (.cells vs elem fz)) (hfz : xw fz vs.size)
   (hvs : vs.size = cap * d) (hd : 0 < d) (hle : es.length ≤ cap) (ho : 0 < cap → o = 0) (hes : ∀ e ∈ es,e.length = d) (hks : ks.length = es.flatten.length)
   (val : Nat → Value) (hval : ∀ i,i < es.flatten.length → vs[i]? = some (val i)) (h : ∀ (i : Nat) p k,es.flatten[i]? = some p → ks[i]? = some k → jg w Im ds p (val i) k) :
   jg w Im (d :: ds) (.sl false (szc d es) es) (.slice (some ⟨b,o,none⟩) es.length cap) (.node b cap ks)
theorem RP.mk {w : World} {Im : Nat → Prop} {b : Bool} {sz : Nat} {es : List (List PV)} {v : Value} (h : RP w Im (.sl b sz es) v) : RP w Im (q38 b sz es) v := by
 cases es with
 | cons _ _ => exact h
 | nil => cases h with
  | nilsl => exact .nilsl 0
  | sl _ _ b off cap vs him hcap hsz hc hf hh sp hsp => exact .sl 0 [] b off cap vs (fun h => absurd rfl h) (Nat.zero_le _) (by simp) (fun i hlt => by simp at hlt) (by simp) (by simp) sp (fun h => absurd rfl h)
def Blk.q7u : Blk → Bool
 | .box _ | .z8 _ _ => true
 | _ => false
inductive RA (w : World) (H : Heap) (ι : Plc) (Im : Nat → Prop) : AV → Value → Prop
 | undef (v : Value) : RA w H ι Im .undef v
 | pv (p : PV) (v : Value) (h : RP w Im p v) : RA w H ι Im (.pv p) v
 | ptr (β o : Nat) (b : Blk) (hb : H.get β = some b) (hk : b.q7u = true) : RA w H ι Im (.ptr β o) (.pointer (some ⟨(ι β).b,o,none⟩))
 | eptr (β ver i o b' o' : Nat) (b : Blk) (hb : H.get β = some b) (hver : ∀ isnil sz l,b.sh = some (isnil,sz,l) → ver ≤ l)
   (h : ∀ isnil sz l,b.sh = some (isnil,sz,l) → ver = l → isnil = false → b' = (ι β).b ∧ o' = i * sz + o) :
   RA w H ι Im (.eptr β ver i o) (.pointer (some ⟨b',o',none⟩))
 | row (β ver off n : Nat) (v : Value) (b : Blk) (ho : zm v = true) (hb : H.get β = some b) (hk : b ≠ .dead → ∃ isnil sz l,b.sh = some (isnil,sz,l))
   (hver : ∀ isnil sz l,b.sh = some (isnil,sz,l) → ver ≤ l)
   (h : ∀ isnil sz l,b.sh = some (isnil,sz,l) → ver = l → off + n ≤ l ∧
    if isnil = true then v = .slice none 0 0
    else ∃ a,v = .slice (some a) n ((ι β).cap - off) ∧ a.spot = none ∧ a.block = (ι β).b ∧ (off < (ι β).cap → a.off = off * sz)) :
   RA w H ι Im (.row β ver off n) v
 | rptr (c : List PV) (o b off : Nat) (vs : Nat → Value) (him : Im b) (hc : ∀ i,i < c.length → w.cell? ⟨b,off + i,none⟩ = some (vs i))
   (hf : ∀ p ∈ c,p.flat = true) (h : ∀ (i : Nat) p,c[i]? = some p → RP w Im p (vs i)) :
   RA w H ι Im (.rptr c o) (.pointer (some ⟨b,off + o,none⟩))
 | zsl (a : Addr) : RA w H ι Im .zsl (.slice (some a) 0 0)
 | map (β : Nat) (es : List (PV × PV × Nat)) (clock : Nat) (hb : H.get β = some (.map es clock)) : RA w H ι Im (.map β) (.map (some (ι β).b))
 | qj (β : Nat) (es : List (PV × AV × Nat)) (clock : Nat) (hb : H.get β = some (.qj es clock)) : RA w H ι Im (.qj β) (.map (some (ι β).b))
 | clo (f : FuncId) (a b : List AV) (va vb : List Value) (hla : a.length = va.length) (hlb : b.length = vb.length)
   (ha : ∀ (i : Nat) x v,a[i]? = some x → va[i]? = some v → RA w H ι Im x v)
   (hb : ∀ (i : Nat) x v,b[i]? = some x → vb[i]? = some v → RA w H ι Im x v) : RA w H ι Im (.clo f a b) (.func (.func f) ⟨va⟩ ⟨vb⟩)
 | agg (c : List AV) (vs : List Value) (hl : c.length = vs.length) (hf : ∀ x ∈ c,x.flat = true)
   (h : ∀ (i : Nat) x v,c[i]? = some x → vs[i]? = some v → RA w H ι Im x v) : RA w H ι Im (.agg c) (.agg ⟨vs⟩)
 | tup (c : List AV) (vs : List Value) (hl : c.length = vs.length)
   (h : ∀ (i : Nat) x v,c[i]? = some x → vs[i]? = some v → RA w H ι Im x v) : RA w H ι Im (.tup c) (.tuple ⟨vs⟩)
def Blk.used : Blk → Bool
 | .box _ => true
 | .row isnil _ _ => !isnil
 | .map _ _ => true
 | .ql _ _ => true
 | .z8 _ _ => true
 | .qj _ _ => true
 | .za _ isnil _ _ => !isnil
 | .qh isnil _ _ _ => !isnil
 | .dead => false
def Blk.isO : Blk → Bool
 | .qh _ _ _ _ => true
 | _ => false
def Blk.foot (b : Blk) (p : Pl) (x : Nat) : Prop := b.used = true ∧ (x = p.b ∨ b.isO = true ∧ x ∈ p.ks.flatMap Sk.blocks)
def j6 (w : World) (H : Heap) (ι : Plc) (Im : Nat → Prop) (β : Nat) : Blk → Prop
 | .box c => ∃ vs elem fz,w.heap[(ι β).b]? = some (.cells vs elem fz) ∧ xw fz vs.size ∧ c.length = vs.size ∧
   (∀ x ∈ c,x.flat = true) ∧ ∀ (i : Nat) x v,c[i]? = some x → vs[i]? = some v → RA w H ι Im x v
 | .row true _ es => es = []
 | .row false sz es => ∃ vs elem fz,w.heap[(ι β).b]? = some (.cells vs elem fz) ∧ xw fz vs.size ∧ vs.size = (ι β).cap * sz ∧ 0 < sz ∧
   es.length ≤ (ι β).cap ∧ (∀ e ∈ es,e.length = sz) ∧ (∀ (i : Nat) e (j : Nat) p,es[i]? = some e → e[j]? = some p → p.flat = true) ∧
   ∀ (i : Nat) e (j : Nat) p,es[i]? = some e → e[j]? = some p → ∃ v,vs[i * sz + j]? = some v ∧ RP w Im p v
 | .map es clock => ∃ ents : List MapEntry,w.heap[(ι β).b]? = some (.map ⟨ents⟩ clock) ∧ es.length = ents.length ∧
   ∀ (i : Nat) (k x : PV) (born : Nat) e,es[i]? = some (k,x,born) → ents[i]? = some e → RP w Im k e.key ∧ RP w Im x e.val ∧ e.born = born
 | .ql sz es => ∃ vs elem fz,w.heap[(ι β).b]? = some (.cells vs elem fz) ∧ xw fz vs.size ∧ vs.size = (ι β).cap * sz ∧ 0 < sz ∧
   es.length ≤ (ι β).cap ∧ (∀ e ∈ es,e.length = sz) ∧ (∀ (i : Nat) e (j : Nat) x,es[i]? = some e → e[j]? = some x → x.flat = true) ∧
   ∀ (i : Nat) e (j : Nat) x,es[i]? = some e → e[j]? = some x → ∃ v,vs[i * sz + j]? = some v ∧ RA w H ι Im x v
 | .z8 t c => ∃ vs fz,w.heap[(ι β).b]? = some (.cells vs t fz) ∧ xw fz vs.size ∧ c.length = vs.size ∧
   (∀ x ∈ c,x.flat = true) ∧ ∀ (i : Nat) x v,c[i]? = some x → vs[i]? = some v → RA w H ι Im x v
 | .qj es clock => ∃ ents : List MapEntry,w.heap[(ι β).b]? = some (.map ⟨ents⟩ clock) ∧ es.length = ents.length ∧
   ∀ (i : Nat) (k : PV) (x : AV) (born : Nat) e,es[i]? = some (k,x,born) → ents[i]? = some e → RP w Im k e.key ∧ RA w H ι Im x e.val ∧ e.born = born
 | .za _ true _ es => es = []
 | .za t false sz es => ∃ vs fz,w.heap[(ι β).b]? = some (.cells vs t fz) ∧ xw fz vs.size ∧ vs.size = (ι β).cap * sz ∧ 0 < sz ∧
   es.length ≤ (ι β).cap ∧ (∀ e ∈ es,e.length = sz) ∧ (∀ (i : Nat) e (j : Nat) p,es[i]? = some e → e[j]? = some p → p.flat = true) ∧
   ∀ (i : Nat) e (j : Nat) p,es[i]? = some e → e[j]? = some p → ∃ v,vs[i * sz + j]? = some v ∧ RP w Im p v
 | .qh true _ es foc => es = [] ∧ foc = none
 | .qh false ds es foc => ∃ vs elem fz,w.heap[(ι β).b]? = some (.cells vs elem fz) ∧ xw fz vs.size ∧ vs.size = (ι β).cap ∧ es.length ≤ (ι β).cap ∧ (ι β).ks.length = es.length ∧
   ((ι β).b :: (ι β).ks.flatMap Sk.blocks).Nodup ∧ (∀ x ∈ (ι β).ks.flatMap Sk.blocks,x < w.heap.size) ∧ (∀ j γ ver,foc = some (j,γ,ver) → j < es.length) ∧
   ∀ (i : Nat) p k,es[i]? = some p → (ι β).ks[i]? = some k → ∃ v,vs[i]? = some v ∧
    ((∀ j γ ver,foc = some (j,γ,ver) → i ≠ j) → jg w Im ds p v k) ∧ (∀ γ ver,foc = some (i,γ,ver) → k = .leaf ∧ RA w H ι Im (.row γ ver 0 ver) v)
 | .dead => True
class Globs where
 ok : World → Prop
 on : Nat → Prop
 frame : ∀ {w w' : World},ok w → (∀ b,on b → w'.heap[b]? = w.heap[b]?) → ok w'
instance (priority := low) noGlobs : Globs := ⟨fun _ => True,fun _ => False,fun _ _ => trivial⟩
structure qa [Globs] (w : World) (H : Heap) (ι : Plc) (Im : Nat → Prop) : Prop where
 blk : ∀ β b,H.get β = some b → j6 w H ι Im β b
 inj : ∀ β β' b b' x,H.get β = some b → H.get β' = some b' → b.foot (ι β) x → b'.foot (ι β') x → β = β'
 im : ∀ b,Im b → b < w.heap.size
 nim : ∀ β b x,H.get β = some b → b.foot (ι β) x → ¬ Im x
 glb : Globs.ok w
 gim : ∀ b,Globs.on b → Im b
theorem Globs.go [Globs] {w w' : World} {Im : Nat → Prop} (h : Globs.ok w) (h2 : ∀ b,Globs.on b → Im b) (hk : ∀ b,Im b → w'.heap[b]? = w.heap[b]?) : Globs.ok w' := Globs.frame h fun b hb => hk b (h2 b hb)
def qo (x y : Blk) (p q : Pl) : Prop :=
 match x.sh,y.sh with
 | some (isnil,sz,l),some (isnil',sz',l') => l ≤ l' ∧ (l = l' → isnil = isnil' ∧ (isnil = false → sz = sz' ∧ p.same q))
 | some _,none => y = .dead
 | none,some _ => False
 | none,none => match x,y with
  | .box _,.box _ => p = q
  | .z8 _ _,.z8 _ _ => p = q
  | .map _ _,.map _ _ => p = q
  | .qj _ _,.qj _ _ => p = q
  | .dead,.dead => True
  | _,_ => False
theorem q4p {x y : Blk} {p q : Pl} {isnil isnil' : Bool} {sz sz' l l' : Nat} (hx : x.sh = some (isnil,sz,l)) (hy : y.sh = some (isnil',sz',l')) :
  qo x y p q = (l ≤ l' ∧ (l = l' → isnil = isnil' ∧ (isnil = false → sz = sz' ∧ p.same q))) := by
 unfold qo
 rw [hx,hy]
theorem q5j {x y : Blk} {p q : Pl} (h : qo x y p q) {isnil : Bool} {sz l : Nat} (hy : y.sh = some (isnil,sz,l)) : ∃ isnil0 sz0 l0,x.sh = some (isnil0,sz0,l0) := by
 cases hx : x.sh with
 | some q => exact ⟨_,_,_,rfl⟩
 | none =>
  unfold qo at h
  rw [hx,hy] at h
  exact (h : False).elim
theorem zd6 {x y : Blk} {p q : Pl} (h : qo x y p q) {isnil : Bool} {sz l : Nat} (hx : x.sh = some (isnil,sz,l)) : y = .dead ∨ ∃ isnil0 sz0 l0,y.sh = some (isnil0,sz0,l0) := by
 unfold qo at h
 rw [hx] at h
 cases hy : y.sh with
 | none =>
  rw [hy] at h
  exact .inl h
 | some q => exact .inr ⟨_,_,_,rfl⟩
structure Evo (w : World) (H : Heap) (ι : Plc) (Im : Nat → Prop) (w' : World) (H' : Heap) (ι' : Plc) (Im' : Nat → Prop) : Prop where
 comp : ∀ β b,H.get β = some b → ∃ b',H'.get β = some b' ∧ qo b b' (ι β) (ι' β)
 im : ∀ b,Im b → Im' b
 imnew : ∀ b,Im' b → Im b ∨ w.heap.size ≤ b ∨ ∃ β x,H.get β = some x ∧ x.foot (ι β) b
 plnew : ∀ β x z,H'.get β = some x → x.foot (ι' β) z → w.heap.size ≤ z ∨ ∃ β0 x0,H.get β0 = some x0 ∧ x0.foot (ι β0) z
 same : ∀ b,b < w.heap.size → (∀ β x,H.get β = some x → ¬ x.foot (ι β) b) → w'.heap[b]? = w.heap[b]?
 size : w.heap.size ≤ w'.heap.size
 io : w'.os = w.os ∧ w'.output = w.output
theorem gz (b : Blk) (p : Pl) : qo b b p p := by
 unfold qo
 cases h : b.sh with
 | some q => exact ⟨Nat.le_refl _,fun _ => ⟨rfl,fun _ => ⟨rfl,p.q3r⟩⟩⟩
 | none => cases b <;> first | (simp only [Blk.sh] at h; cases h; done) | rfl | exact trivial
theorem q9w {x y z : Blk} {p q r : Pl} (h1 : qo x y p q) (h2 : qo y z q r) : qo x z p r := by
 have key : ∀ {i1 i2 i3 : Bool} {s1 s2 s3 l1 l2 l3 : Nat},(l1 ≤ l2 ∧ (l1 = l2 → i1 = i2 ∧ (i1 = false → s1 = s2 ∧ p.same q))) → (l2 ≤ l3 ∧ (l2 = l3 → i2 = i3 ∧ (i2 = false → s2 = s3 ∧ q.same r))) →
   (l1 ≤ l3 ∧ (l1 = l3 → i1 = i3 ∧ (i1 = false → s1 = s3 ∧ p.same r))) := by
  intro i1 i2 i3 s1 s2 s3 l1 l2 l3 h1 h2
  obtain ⟨a1,b1⟩ := h1
  obtain ⟨a2,b2⟩ := h2
  refine ⟨Nat.le_trans a1 a2,fun e => ?_⟩
  obtain ⟨i1,j1⟩ := b1 (by omega)
  obtain ⟨i2,j2⟩ := b2 (by omega)
  refine ⟨i1.trans i2,fun hn => ?_⟩
  obtain ⟨k1,l1⟩ := j1 hn
  obtain ⟨k2,l2⟩ := j2 (i1 ▸ hn)
  exact ⟨k1.trans k2,Pl.zdd l1 l2⟩
 unfold qo at h1 h2 ⊢
 cases hx : x.sh with
 | some a =>
  obtain ⟨i1,s1,l1⟩ := a
  rw [hx] at h1
  cases hy : y.sh with
  | some b =>
   obtain ⟨i2,s2,l2⟩ := b
   rw [hy] at h1 h2
   cases hz : z.sh with
   | some c =>
    obtain ⟨i3,s3,l3⟩ := c
    rw [hz] at h2
    exact key h1 h2
   | none =>
    rw [hz] at h2
    exact h2
  | none =>
   rw [hy] at h1 h2
   have hd : y = .dead := h1
   subst hd
   cases hz : z.sh with
   | some c => rw [hz] at h2; exact (h2 : False).elim
   | none =>
    rw [hz] at h2
    cases z <;> first | rfl | exact (h2 : False).elim
 | none =>
  rw [hx] at h1
  cases hy : y.sh with
  | some b => rw [hy] at h1; exact (h1 : False).elim
  | none =>
   rw [hy] at h1 h2
   cases hz : z.sh with
   | some c => rw [hz] at h2; exact (h2 : False).elim
   | none =>
    rw [hz] at h2
    cases x <;> cases y <;> first | exact (h1 : False).elim | (cases z <;> first | exact (h2 : False).elim | exact trivial | exact Eq.trans (h1 : p = q) (h2 : q = r))
theorem Evo.refl (w : World) (H : Heap) (ι : Plc) (Im : Nat → Prop) : Evo w H ι Im w H ι Im where
 comp := fun β b h => ⟨b,h,gz b _⟩
 im := fun _ h => h
 imnew := fun _ h => .inl h
 plnew := fun β x z h hu => .inr ⟨β,x,h,hu⟩
 same := fun _ _ _ => rfl
 size := Nat.le_refl _
 io := ⟨rfl,rfl⟩
theorem Evo.trans {w w1 w2 : World} {H H1 H2 : Heap} {ι ι1 ι2 : Plc} {Im Im1 Im2 : Nat → Prop}
  (h1 : Evo w H ι Im w1 H1 ι1 Im1) (h2 : Evo w1 H1 ι1 Im1 w2 H2 ι2 Im2) : Evo w H ι Im w2 H2 ι2 Im2 where
 comp := fun β b h => by
  obtain ⟨b1,g1,c1⟩ := h1.comp β b h
  obtain ⟨b2,g2,c2⟩ := h2.comp β b1 g1
  exact ⟨b2,g2,q9w c1 c2⟩
 im := fun b h => h2.im b (h1.im b h)
 imnew := fun b h => by
  rcases h2.imnew b h with h | h | ⟨β,x,hx,hu⟩
  ·exact h1.imnew b h
  ·exact .inr (.inl (Nat.le_trans h1.size h))
  ·rcases h1.plnew β x b hx hu with h | ⟨β0,x0,g,hu0⟩
   ·exact .inr (.inl h)
   ·exact .inr (.inr ⟨β0,x0,g,hu0⟩)
 plnew := fun β x z h hu => by
  rcases h2.plnew β x z h hu with h | ⟨β0,x0,g,hu0⟩
  ·exact .inl (Nat.le_trans h1.size h)
  ·exact h1.plnew β0 x0 z g hu0
 same := fun b hb hn => by
  have e1 := h1.same b hb hn
  have e2 := h2.same b (Nat.lt_of_lt_of_le hb h1.size) (fun β x hx hu => by
   rcases h1.plnew β x b hx hu with h | ⟨β0,x0,g,hu0⟩
   ·omega
   ·exact hn β0 x0 g hu0)
  exact e2.trans e1
 size := Nat.le_trans h1.size h2.size
 io := ⟨h2.io.1.trans h1.io.1,h2.io.2.trans h1.io.2⟩
theorem Evo.kept [Globs] {w w1 : World} {H H1 : Heap} {ι ι1 : Plc} {Im Im1 : Nat → Prop} (hi : qa w H ι Im)
  (h : Evo w H ι Im w1 H1 ι1 Im1) (b : Nat) (hb : Im b) : w1.heap[b]? = w.heap[b]? :=
 h.same b (hi.im b hb) fun β x hx hu => hi.nim β x b hx hu hb
theorem q7s {w w1 : World} {b : Nat} (h : w1.heap[b]? = w.heap[b]?) (o : Nat) : w1.cell? ⟨b,o,none⟩ = w.cell? ⟨b,o,none⟩ := by
 simp only [World.cell?,h]
theorem RP.mono {w w' : World} {Im Im' : Nat → Prop} (hi : ∀ b,Im b → Im' b) (hw : ∀ b,Im b → w'.heap[b]? = w.heap[b]?)
  {p : PV} {v : Value} (h : RP w Im p v) : RP w' Im' p v := by
 induction h with
 | bool b => exact .bool b
 | int k n => exact .int k n
 | str l => exact .str l
 | agg c vs hl hf _ ih => exact .agg c vs hl hf ih
 | nilsl sz => exact .nilsl sz
 | sl sz es b off cap vs him hcap hsz hc hf _ sp hsp ih =>
  refine .sl sz es b off cap vs (fun hne => hi b (him hne)) hcap hsz (fun i hlt => ?_) hf ih sp hsp
  have hne : es ≠ [] := by
   intro e
   subst e
   simp at hlt
  exact (q7s (hw b (him hne)) _).trans (hc i hlt)
 | nilptr => exact .nilptr
 | nilfn => exact .nilfn
 | nilmap => exact .nilmap
 | nilif => exact .nilif
 | fn f => exact .fn f
 | rp c b off vs him hc hf _ ih => exact .rp c b off vs (hi b him) (fun i hlt => (q7s (hw b him) _).trans (hc i hlt)) hf ih
theorem RA.mono [Globs] {w w' : World} {H H' : Heap} {ι ι' : Plc} {Im Im' : Nat → Prop} (hi : qa w H ι Im) (he : Evo w H ι Im w' H' ι' Im')
  {x : AV} {v : Value} (h : RA w H ι Im x v) : RA w' H' ι' Im' x v := by
 have hw : ∀ b,Im b → w'.heap[b]? = w.heap[b]? := fun b hb => he.kept hi b hb
 induction h with
 | undef v => exact .undef v
 | pv p v h => exact .pv p v (h.mono he.im hw)
 | ptr β o b hb hk =>
  obtain ⟨b',g,hc⟩ := he.comp β _ hb
  cases b <;> simp only [Blk.q7u,Bool.false_eq_true] at hk <;> cases b' <;> first | exact (hc : False).elim | (have hc' : ι β = ι' β := hc; rw [hc']; exact .ptr β o _ g rfl)
 | eptr β ver i o b1 o1 b hb hver h =>
  obtain ⟨b',g,hc⟩ := he.comp β _ hb
  refine .eptr β ver i o b1 o1 b' g ?_ ?_
  ·intro isnil sz l e
   obtain ⟨isnil0,sz0,l0,e0⟩ := q5j hc e
   rw [q4p e0 e] at hc
   exact Nat.le_trans (hver _ _ _ e0) hc.1
  intro isnil sz l e hv hn
  obtain ⟨isnil0,sz0,l0,e0⟩ := q5j hc e
  rw [q4p e0 e] at hc
  have hle := hver _ _ _ e0
  have hl : l0 = l := by omega
  obtain ⟨hnil,hs⟩ := hc.2 hl
  obtain ⟨hs,hp⟩ := hs (by rw [hnil]; exact hn)
  obtain ⟨g1,g2⟩ := h isnil0 sz0 l0 e0 (by omega) (by rw [hnil]; exact hn)
  exact ⟨by rw [g1,hp.1],by rw [g2,hs]⟩
 | row β ver off n v b ho hb hk hver h =>
  obtain ⟨b',g,hc⟩ := he.comp β _ hb
  refine .row β ver off n v b' ho g ?_ ?_ ?_
  ·intro hd
   by_cases h0 : b = .dead
   ·subst h0
    cases b' with
    | dead => exact absurd rfl hd
    | _ => exact (hc : False).elim
   ·obtain ⟨_,_,_,e0⟩ := hk h0
    rcases zd6 hc e0 with h | h
    ·exact absurd h hd
    ·exact h
  ·intro isnil sz l e
   obtain ⟨isnil0,sz0,l0,e0⟩ := q5j hc e
   rw [q4p e0 e] at hc
   exact Nat.le_trans (hver _ _ _ e0) hc.1
  ·intro isnil sz l e hv
   obtain ⟨isnil0,sz0,l0,e0⟩ := q5j hc e
   rw [q4p e0 e] at hc
   have hle := hver _ _ _ e0
   have hl : l0 = l := by omega
   obtain ⟨hnil,hs⟩ := hc.2 hl
   obtain ⟨h1,h2⟩ := h isnil0 sz0 l0 e0 (by omega)
   refine ⟨by omega, ?_⟩
   cases hn : isnil
   ·obtain ⟨hs,hp⟩ := hs (by rw [hnil]; exact hn)
    rw [hnil,hn] at h2
    rw [← hp.1,← hp.2,← hs]
    exact h2
   ·rw [hnil,hn] at h2
    exact h2
 | rptr c o b off vs him hc hf h =>
  exact .rptr c o b off vs (he.im b him) (fun i hlt => (q7s (hw b him) _).trans (hc i hlt)) hf fun i p hp => (h i p hp).mono he.im hw
 | zsl a => exact .zsl a
 | map β es clock hb =>
  obtain ⟨b',g,hc⟩ := he.comp β _ hb
  cases b' <;> first | exact (hc : False).elim | (have hc' : ι β = ι' β := hc; rw [hc']; exact .map β _ _ g)
 | qj β es clock hb =>
  obtain ⟨b',g,hc⟩ := he.comp β _ hb
  cases b' <;> first | exact (hc : False).elim | (have hc' : ι β = ι' β := hc; rw [hc']; exact .qj β _ _ g)
 | clo f a b va vb hla hlb _ _ iha ihb => exact .clo f a b va vb hla hlb iha ihb
 | agg c vs hl hf _ ih => exact .agg c vs hl hf ih
 | tup c vs hl _ ih => exact .tup c vs hl ih
end Go.Gm
set_option linter.unusedSectionVars false
namespace Go.Gm
open Go
def yl (P : Program) : TypeDesc → Option TD
 | .struct fs => some (.struct (fs.toList.map fun f => (f.offset,P.cellsOf f.type,f.type)))
 | .array n e => some (.array n e)
 | .slice e => some (.slice e)
 | .map k e => some (.map k e)
 | .bool => some .bool
 | .int k => some (.int k)
 | .string => some .string
 | .pointer _ => some .ptr
 | .func _ _ _ => some .func
 | .interface _ | .tuple _ => some .other
 | _ => none
def q2q (P : Program) : Nat → List Field → Bool
 | _,[] => true
 | i,f :: r => f.name != "_" && f.offset == i && q2q P (i + P.cellsOf f.type) r
def q59 (P : Program) (t : TypeId) : Bool :=
 match P.underlying t with
 | some (.struct fs) => !P.stoodInHeld t && !P.eqGuardType P.depth t && q2q P 0 fs.toList
 | _ => false
def q1v : Value → Bool
 | .agg _ => true
 | _ => false
def TD.isAgg : TD → Bool
 | .struct _ | .array _ _ => true
 | _ => false
def q64 (P : Program) (t : TypeId) : Bool :=
 match P.underlying t with
 | some (.struct fs) => fs.toList.all fun f => (P.info? f.type).isSome
 | _ => true
def q79 (P : Program) (t : TypeId) : Option TypeId := match P.underlying t with | some (.pointer e) => some e | _ => none
def q6k (P : Program) (t : TypeId) : Option TI :=
 match P.info? t,P.underlying t with
 | some i,some d => match yl P d,i.zero with
  | some td,some z => match vw z.cells.toList with
   | some l => if l.length = i.size ∧ q1v z = td.isAgg ∧ (l.all PV.flat) = true ∧ q64 P t = true then some ⟨i.size,i.bytes,td,l,q59 P t,q79 P t⟩ else none
   | none => none
  | _,_ => none
 | _,_ => none
structure qb (P : Program) (t : TypeId) (ti : TI) : Prop where
 info : ∃ i z,P.info? t = some i ∧ i.size = ti.size ∧ i.bytes = ti.bytes ∧ i.zero = some z ∧ vw z.cells.toList = some ti.zero ∧ q1v z = ti.td.isAgg
 len : ti.zero.length = ti.size
 flat : ∀ p ∈ ti.zero,p.flat = true
 und : ∃ d,P.underlying t = some d ∧ yl P d = some ti.td
 known : q64 P t = true
 eqk : ti.eq = q59 P t
 pek : ti.pe = q79 P t
theorem qy3 {P : Program} {t : TypeId} {ti : TI} (h : q6k P t = some ti) : qb P t ti := by
 unfold q6k at h
 split at h <;> try cases h
 rename_i i d hi hd
 split at h <;> try cases h
 rename_i td z htd hz
 split at h <;> try cases h
 rename_i l hl
 split at h <;> try cases h
 rename_i hc
 obtain ⟨h1,h2,h3,h4⟩ := hc
 exact ⟨⟨i,z,hi,rfl,rfl,hz,hl,h2⟩,h1,by simpa using h3,⟨d,hd,htd⟩,h4,rfl,rfl⟩
theorem Heap.get_put (H : Heap) (β γ : Nat) (y : Blk) : (H.put β y).get γ = if γ = β then some y else H.get γ := by
 induction H with
 | nil => simp only [Heap.put,Heap.get]; by_cases h : β = γ <;> simp [h,eq_comm]
 | cons x r ih =>
  obtain ⟨i,v⟩ := x
  simp only [Heap.put]
  by_cases h : i = β
  ·subst h
   simp only [if_true,Heap.get]
   by_cases h2 : i = γ
   ·simp [h2]
   ·simp [h2,Ne.symm h2]
  ·simp only [h,if_false,Heap.get,ih]
   by_cases h2 : i = γ
   ·subst h2; simp [h]
   ·simp [h2]
def qg (ι : Plc) (β : Nat) (p : Pl) : Plc := fun γ => if γ = β then p else ι γ
@[simp] theorem updP_same (ι : Plc) (β : Nat) (p : Pl) : qg ι β p β = p := by simp [qg]
theorem wy (ι : Plc) {β γ : Nat} (p : Pl) (h : γ ≠ β) : qg ι β p γ = ι γ := by simp [qg,h]
theorem jg.mono {w w' : World} {Im Im' : Nat → Prop} (hi : ∀ b,Im b → Im' b) (hw : ∀ b,Im b → w'.heap[b]? = w.heap[b]?) {ds : List Nat} {p : PV} {v : Value} {k : Sk} (h : jg w Im ds p v k) :
  (∀ x ∈ k.blocks,w'.heap[x]? = w.heap[x]?) → jg w' Im' ds p v k := by
 induction h with
 | bn p v hs h => exact fun _ => .bn p v hs (h.mono hi hw)
 | nil d ds => exact fun _ => .nil d ds
 | sl d ds es b o cap ks vs elem fz hb hfz hvs hd hle ho hes hks val hval _ ih =>
  intro hk
  refine .sl d ds es b o cap ks vs elem fz (by rw [hk b (by simp [Sk.blocks])]; exact hb) hfz hvs hd hle ho hes hks val hval fun i p k a c => ih i p k a c fun x hx => hk x ?_
  simp only [Sk.blocks,List.mem_cons,List.mem_flatMap]
  exact .inr ⟨k,List.mem_of_getElem? c,hx⟩
theorem j6.mono [Globs] {w w' : World} {H H' : Heap} {ι ι' : Plc} {Im Im' : Nat → Prop} (hi : qa w H ι Im) (he : Evo w H ι Im w' H' ι' Im')
  {β : Nat} {b : Blk} (hp : b.used = true → ι' β = ι β ∧ ∀ x,b.foot (ι β) x → w'.heap[x]? = w.heap[x]?) (h : j6 w H ι Im β b) : j6 w' H' ι' Im' β b := by
 have hw : ∀ b,Im b → w'.heap[b]? = w.heap[b]? := fun b hb => he.kept hi b hb
 cases b with
 | box c =>
  obtain ⟨e1,e2⟩ := hp rfl
  have e2 := e2 _ ⟨rfl,.inl rfl⟩
  obtain ⟨vs,elem,fz,h1,h2,h3,h4,h5⟩ := h
  exact ⟨vs,elem,fz,by rw [e1,e2]; exact h1,h2,h3,h4,fun i x v a b => (h5 i x v a b).mono hi he⟩
 | row isnil sz es =>
  cases isnil with
  | true => exact h
  | false =>
   obtain ⟨e1,e2⟩ := hp rfl
   have e2 := e2 _ ⟨rfl,.inl rfl⟩
   obtain ⟨vs,elem,fz,h1,h2,h3,h4,h5,h6,h7,h8⟩ := h
   refine ⟨vs,elem,fz,by rw [e1,e2]; exact h1,h2,by rw [e1]; exact h3,h4,by rw [e1]; exact h5,h6,h7,fun i e j p a b => ?_⟩
   obtain ⟨v,g1,g2⟩ := h8 i e j p a b
   exact ⟨v,g1,g2.mono he.im hw⟩
 | map es clock =>
  obtain ⟨e1,e2⟩ := hp rfl
  have e2 := e2 _ ⟨rfl,.inl rfl⟩
  obtain ⟨ents,h1,h2,h3⟩ := h
  refine ⟨ents,by rw [e1,e2]; exact h1,h2,fun i k x born e a b => ?_⟩
  obtain ⟨g1,g2,g3⟩ := h3 i k x born e a b
  exact ⟨g1.mono he.im hw,g2.mono he.im hw,g3⟩
 | ql sz es =>
  obtain ⟨e1,e2⟩ := hp rfl
  have e2 := e2 _ ⟨rfl,.inl rfl⟩
  obtain ⟨vs,elem,fz,h1,h2,h3,h4,h5,h6,h7,h8⟩ := h
  refine ⟨vs,elem,fz,by rw [e1,e2]; exact h1,h2,by rw [e1]; exact h3,h4,by rw [e1]; exact h5,h6,h7,fun i e j x a b => ?_⟩
  obtain ⟨v,g1,g2⟩ := h8 i e j x a b
  exact ⟨v,g1,g2.mono hi he⟩
 | z8 t c =>
  obtain ⟨e1,e2⟩ := hp rfl
  have e2 := e2 _ ⟨rfl,.inl rfl⟩
  obtain ⟨vs,fz,h1,h2,h3,h4,h5⟩ := h
  exact ⟨vs,fz,by rw [e1,e2]; exact h1,h2,h3,h4,fun i x v a b => (h5 i x v a b).mono hi he⟩
 | za e isnil sz es =>
  cases isnil with
  | true => exact h
  | false =>
   obtain ⟨e1,e2⟩ := hp rfl
   have e2 := e2 _ ⟨rfl,.inl rfl⟩
   obtain ⟨vs,fz,h1,h2,h3,h4,h5,h6,h7,h8⟩ := h
   refine ⟨vs,fz,by rw [e1,e2]; exact h1,h2,by rw [e1]; exact h3,h4,by rw [e1]; exact h5,h6,h7,fun i e j p a b => ?_⟩
   obtain ⟨v,g1,g2⟩ := h8 i e j p a b
   exact ⟨v,g1,g2.mono he.im hw⟩
 | qj es clock =>
  obtain ⟨e1,e2⟩ := hp rfl
  have e2 := e2 _ ⟨rfl,.inl rfl⟩
  obtain ⟨ents,h1,h2,h3⟩ := h
  refine ⟨ents,by rw [e1,e2]; exact h1,h2,fun i k x born e a b => ?_⟩
  obtain ⟨g1,g2,g3⟩ := h3 i k x born e a b
  exact ⟨g1.mono he.im hw,g2.mono hi he,g3⟩
 | qh isnil ds es foc =>
  cases isnil with
  | true => exact h
  | false =>
   obtain ⟨e1,e2⟩ := hp rfl
   obtain ⟨vs,elem,fz,h1,h2,h3,h4,h5,h6,h7,h8,h9⟩ := h
   refine ⟨vs,elem,fz,by rw [e1,e2 _ ⟨rfl,.inl rfl⟩]; exact h1,h2,by rw [e1]; exact h3,by rw [e1]; exact h4,by rw [e1]; exact h5,by rw [e1]; exact h6,fun x hx => Nat.lt_of_lt_of_le (h7 x (by rw [← e1]; exact hx)) he.size,h8,fun i p k a b => ?_⟩
   rw [e1] at b
   obtain ⟨v,g1,g2,g3⟩ := h9 i p k a b
   exact ⟨v,g1,fun hj => (g2 hj).mono he.im hw fun x hx => e2 x ⟨rfl,.inr ⟨rfl,List.mem_flatMap.mpr ⟨k,List.mem_of_getElem? b,hx⟩⟩⟩,fun γ ver hf => ⟨(g3 γ ver hf).1,(g3 γ ver hf).2.mono hi he⟩⟩
 | dead => trivial
theorem j6.lt {w : World} {H : Heap} {ι : Plc} {Im : Nat → Prop} {β : Nat} {b : Blk} (h : j6 w H ι Im β b) (hu : b.used = true) : (ι β).b < w.heap.size := by
 have key : ∀ o,w.heap[(ι β).b]? = some o → (ι β).b < w.heap.size := fun o ho => by
  rcases Nat.lt_or_ge (ι β).b w.heap.size with hlt | hge
  ·exact hlt
  ·simp [Array.getElem?_eq_none hge] at ho
 cases b with
 | box c => obtain ⟨vs,elem,fz,h1,_⟩ := h; exact key _ h1
 | row isnil sz es =>
  cases isnil with
  | true => cases hu
  | false => obtain ⟨vs,elem,fz,h1,_⟩ := h; exact key _ h1
 | map es clock => obtain ⟨ents,h1,_⟩ := h; exact key _ h1
 | ql sz es => obtain ⟨vs,elem,fz,h1,_⟩ := h; exact key _ h1
 | z8 t c => obtain ⟨vs,fz,h1,_⟩ := h; exact key _ h1
 | qj es clock => obtain ⟨ents,h1,_⟩ := h; exact key _ h1
 | za e isnil sz es =>
  cases isnil with
  | true => cases hu
  | false => obtain ⟨vs,fz,h1,_⟩ := h; exact key _ h1
 | qh isnil ds es foc =>
  cases isnil with
  | true => cases hu
  | false => obtain ⟨vs,elem,fz,h1,_⟩ := h; exact key _ h1
 | dead => cases hu
theorem j6.mf {w : World} {H : Heap} {ι : Plc} {Im : Nat → Prop} {β : Nat} {b : Blk} {x : Nat} (h : j6 w H ι Im β b) (hu : b.foot (ι β) x) : x < w.heap.size := by
 rcases hu.2 with rfl | ⟨ho,hx⟩
 ·exact h.lt hu.1
 ·cases b <;> simp only [Blk.isO,Bool.false_eq_true] at ho
  rename_i isnil ds es foc
  cases isnil with
  | true => exact absurd hu.1 (by simp [Blk.used])
  | false =>
   obtain ⟨vs,elem,fz,h1,h2,h3,h4,h5,h6,h7,h8⟩ := h
   exact h7 x hx
theorem Blk.zqb {b : Blk} {p : Pl} {x : Nat} (hb : b.isO = false) (h : b.foot p x) : x = p.b := by
 rcases h.2 with h | ⟨h,_⟩
 ·exact h
 ·rw [hb] at h; cases h
theorem qa.q1q [Globs] {w w' : World} {H : Heap} {ι : Plc} {Im : Nat → Prop} (hi : qa w H ι Im) (β : Nat) (y : Blk) (p : Pl)
  (hold : ∀ x,H.get β = some x → qo x y (ι β) p) (hsz : w.heap.size ≤ w'.heap.size ∧ w'.os = w.os ∧ w'.output = w.output)
  (hsame : ∀ b,b < w.heap.size → (∀ x,H.get β = some x → ¬ x.foot (ι β) b) → w'.heap[b]? = w.heap[b]?)
  (hpl : ∀ z,y.foot p z → w.heap.size ≤ z ∨ ∃ x,H.get β = some x ∧ x.foot (ι β) z)
  (hblk : Evo w H ι Im w' (H.put β y) (qg ι β p) Im → j6 w' (H.put β y) (qg ι β p) Im β y) :
  qa w' (H.put β y) (qg ι β p) Im ∧ Evo w H ι Im w' (H.put β y) (qg ι β p) Im := by
 have he : Evo w H ι Im w' (H.put β y) (qg ι β p) Im := by
  refine ⟨fun γ b hb => ?_,fun _ h => h,fun _ h => .inl h,fun γ x z hx hu => ?_,fun b hb hn => ?_,hsz.1,hsz.2⟩
  ·by_cases hγ : γ = β
   ·subst hγ
    exact ⟨y,by simp [Heap.get_put],by simpa using hold b hb⟩
   ·exact ⟨b,by simp [Heap.get_put,hγ,hb],by rw [wy ι p hγ]; exact gz b _⟩
  ·by_cases hγ : γ = β
   ·subst hγ
    simp only [Heap.get_put,if_true,Option.some.injEq] at hx
    subst hx
    rw [updP_same] at hu
    rcases hpl z hu with h | ⟨x,g1,g2⟩
    ·exact .inl h
    ·exact .inr ⟨γ,x,g1,g2⟩
   ·simp only [Heap.get_put,hγ,if_false] at hx
    rw [wy ι p hγ] at hu
    exact .inr ⟨γ,x,hx,hu⟩
  ·exact hsame b hb fun x hx hu => hn β x hx hu
 refine ⟨⟨fun γ b hb => ?_,fun γ γ' b b' z hb hb' hu hu' => ?_,fun b hb => Nat.lt_of_lt_of_le (hi.im b hb) hsz.1,fun γ b z hb hu => ?_, ?_, ?_⟩,he⟩
 ·by_cases hγ : γ = β
  ·subst hγ
   simp only [Heap.get_put,if_true,Option.some.injEq] at hb
   subst hb
   exact hblk he
  ·simp only [Heap.get_put,hγ,if_false] at hb
   refine (hi.blk γ b hb).mono hi he (fun hu => ⟨wy ι p hγ,fun x hx => ?_⟩)
   exact hsame _ ((hi.blk γ b hb).mf hx) fun x0 hx0 hux => hγ (hi.inj γ β b x0 x hb hx0 hx hux)
 ·have fresh : ∀ δ d,δ ≠ β → H.get δ = some d → d.foot (ι δ) z → y.foot p z → False := by
   intro δ d hδ hd hud huy
   rcases hpl z huy with h | ⟨x,g1,g2⟩
   ·have := (hi.blk δ d hd).mf hud
    omega
   ·exact hδ (hi.inj δ β d x z hd g1 hud g2)
  by_cases hγ : γ = β <;> by_cases hγ' : γ' = β
  ·rw [hγ,hγ']
  ·subst hγ
   simp only [Heap.get_put,if_true,Option.some.injEq,hγ',if_false] at hb hb'
   subst hb
   rw [updP_same] at hu
   rw [wy ι p hγ'] at hu'
   exact (fresh γ' b' hγ' hb' hu' hu).elim
  ·subst hγ'
   simp only [Heap.get_put,if_true,Option.some.injEq,hγ,if_false] at hb hb'
   subst hb'
   rw [updP_same] at hu'
   rw [wy ι p hγ] at hu
   exact (fresh γ b hγ hb hu hu').elim
  ·simp only [Heap.get_put,hγ,hγ',if_false] at hb hb'
   rw [wy ι p hγ] at hu
   rw [wy ι p hγ'] at hu'
   exact hi.inj γ γ' b b' z hb hb' hu hu'
 ·by_cases hγ : γ = β
  ·subst hγ
   simp only [Heap.get_put,if_true,Option.some.injEq] at hb
   subst hb
   rw [updP_same] at hu
   rcases hpl z hu with h | ⟨x,g1,g2⟩
   ·intro hIm
    have := hi.im _ hIm
    omega
   ·exact hi.nim γ x z g1 g2
  ·simp only [Heap.get_put,hγ,if_false] at hb
   rw [wy ι p hγ] at hu
   exact hi.nim γ b z hb hu
 ·exact Globs.go hi.glb hi.gim fun b hb => he.kept hi b hb
 ·exact hi.gim
theorem noO {H : Heap} {β : Nat} {x0 : Blk} (h : H.get β = some x0) (h0 : x0.isO = false) : ∀ x,H.get β = some x → x.isO = false := fun x hx => by
 rw [h] at hx
 cases hx
 exact h0
theorem q2r {H : Heap} {β : Nat} (h : H.get β = none) : ∀ x,H.get β = some x → x.isO = false := fun x hx => by
 rw [h] at hx
 cases hx
theorem qa.put [Globs] {w w' : World} {H : Heap} {ι : Plc} {Im : Nat → Prop} (hi : qa w H ι Im) (β : Nat) (y : Blk) (p : Pl)
  (hold : ∀ x,H.get β = some x → qo x y (ι β) p) (hsz : w.heap.size ≤ w'.heap.size ∧ w'.os = w.os ∧ w'.output = w.output)
  (hsame : ∀ b,b < w.heap.size → (∀ x,H.get β = some x → x.used = true → (ι β).b ≠ b) → w'.heap[b]? = w.heap[b]?)
  (hpl : y.used = true → w.heap.size ≤ p.b ∨ ∃ x,H.get β = some x ∧ x.used = true ∧ (ι β).b = p.b)
  (hblk : Evo w H ι Im w' (H.put β y) (qg ι β p) Im → j6 w' (H.put β y) (qg ι β p) Im β y)
  (hno : ∀ x,H.get β = some x → x.isO = false := by first | (apply noO; assumption; rfl) | (apply q2r; assumption)) (hy : y.isO = false := by rfl) :
  qa w' (H.put β y) (qg ι β p) Im ∧ Evo w H ι Im w' (H.put β y) (qg ι β p) Im := by
 refine qa.q1q hi β y p hold hsz (fun b hb hn => hsame b hb fun x hx hu e => hn x hx ⟨hu,.inl e.symm⟩) (fun z hz => ?_) hblk
 rw [Blk.zqb hy hz]
 rcases hpl hz.1 with h | ⟨x,g1,g2,g3⟩
 ·exact .inl h
 ·exact .inr ⟨x,g1,g2,.inl g3.symm⟩
end Go.Gm
set_option linter.unusedSectionVars false
namespace Go.Gm
open Go
section
variable [Globs] {P : Program} {w : World} {H : Heap} {ι : Plc} {Im : Nat → Prop}
theorem qbh {v : Value} {p : PV} (h : q3u v = some p) : RP w Im p v ∧ p.flat = true ∧ v.cells = #[v] := by
 unfold q3u at h
 split at h <;> cases h
 ·exact ⟨.bool _,rfl,rfl⟩
 ·exact ⟨.int _ _,rfl,rfl⟩
 ·exact ⟨.str _,rfl,rfl⟩
 ·exact ⟨.nilptr,rfl,rfl⟩
 ·exact ⟨.nilsl _,rfl,rfl⟩
 ·exact ⟨.nilmap,rfl,rfl⟩
 ·exact ⟨.nilfn,rfl,rfl⟩
 ·exact ⟨.nilif,rfl,rfl⟩
 ·exact ⟨.fn _,rfl,rfl⟩
theorem q55 : ∀ {vs : List Value} {l : List PV},vw vs = some l →
  l.length = vs.length ∧ (∀ p ∈ l,p.flat = true) ∧ ∀ (i : Nat) p v,l[i]? = some p → vs[i]? = some v → RP w Im p v
 | [],l,h => by
  simp only [vw,Option.some.injEq] at h
  subst h
  simp
 | v :: r,l,h => by
  simp only [vw] at h
  split at h <;> cases h
  rename_i p l' hp hl
  obtain ⟨h1,h2,h3⟩ := q55 hl
  obtain ⟨g1,g2,_⟩ := qbh (w := w) (Im := Im) hp
  refine ⟨by simp [h1],by simpa using ⟨g2,h2⟩,fun i q u hq hu => ?_⟩
  cases i with
  | zero => simp at hq hu; subst hq hu; exact g1
  | succ i => simp at hq hu; exact h3 i q u hq hu
theorem z6s (v : Value) : RA w H ι Im (q5d v) v := by
 unfold q5d
 split
 ·split
  ·rename_i cs _ l hl
   obtain ⟨h1,h2,h3⟩ := q55 (w := w) (Im := Im) hl
   exact .pv _ _ (.agg l cs h1 h2 h3)
  ·exact .undef _
 ·exact .tup [] [] rfl (by simp)
 ·split
  ·rename_i p hp
   exact .pv _ _ (qbh hp).1
  ·exact .undef _
theorem mh {a : Act} {E : Env} (hE : ∀ t,RA w H ι Im (E.get t) (a.tmps.getD t undef)) (x : Operand) : RA w H ι Im (ev E x) (a.eval x) := by
 cases x with
 | tmp t => exact hE t
 | const v => exact z6s v
 | global g => exact .undef _
 | func f => exact .pv _ _ (.fn f)
theorem add_plain (b o n : Nat) : (⟨b,o,none⟩ : Addr).add n = ⟨b,o + n,none⟩ := by
 unfold Addr.add
 split
 ·rename_i h; subst h; rfl
 ·rfl
theorem jw {b o : Nat} {vs : Array Value} {elem : TypeId} {fz : Nat × Nat} (h : w.heap[b]? = some (.cells vs elem fz)) :
  w.cell? ⟨b,o,none⟩ = vs[o]? := by
 simp [World.cell?,h]
theorem qi {t : TypeId} {d : TypeDesc} (h : P.underlying t = some d) : (underlying t).run P w = .ok d w := by
 simp [underlying,h]
theorem q1w {t : TypeId} {i : TypeInfo} (h : P.info? t = some i) : (typeInfo t).run P w = .ok i w := by
 simp [typeInfo,h]
theorem qb.size {t : TypeId} {ti : TI} (h : qb P t ti) : (sizeOf t).run P w = .ok ti.size w := by
 obtain ⟨i,z,h1,h2,_⟩ := h.info
 simp [sizeOf,q1w h1,h2]
theorem qb.isAgg {t : TypeId} {ti : TI} (h : qb P t ti) : (Go.isAgg t).run P w = .ok ti.isAgg w := by
 obtain ⟨d,h1,h2⟩ := h.und
 unfold Go.isAgg
 simp only [Sem.run_bind,qi h1,Result.andThen_ok]
 unfold TI.isAgg
 generalize ti.td = td at *
 cases d <;> simp [yl] at h2 <;> subst h2 <;> rfl
theorem run_loadCellsFrom (b o : Nat) (vs : Nat → Value) : ∀ (n i : Nat) (acc : Array Value),(∀ j,j < n → w.cell? ⟨b,o + (i + j),none⟩ = some (vs (i + j))) →
  (loadCellsFrom ⟨b,o,none⟩ i n acc).run P w = .ok (acc ++ ((List.range n).map fun j => vs (i + j)).toArray) w
 | 0,i,acc,_ => by simp [loadCellsFrom]
 | n + 1,i,acc,h => by
  have h0 := h 0 (by omega)
  simp only [Nat.add_zero] at h0
  have ih := run_loadCellsFrom b o vs n (i + 1) (acc.push (vs i)) (fun j hj => by
   have := h (j + 1) (by omega)
   rwa [show i + (j + 1) = i + 1 + j from by omega] at this)
  simp only [loadCellsFrom,add_plain,Sem.run_bind,run_load,h0,Result.andThen_ok,ih]
  congr 1
  apply Array.ext'
  simp [List.range_succ_eq_map,Function.comp_def,Nat.add_assoc,Nat.add_comm 1]
theorem run_loadCells (b o n : Nat) (vs : Nat → Value) (h : ∀ j,j < n → w.cell? ⟨b,o + j,none⟩ = some (vs j)) :
  (loadCells ⟨b,o,none⟩ n).run P w = .ok ((List.range n).map vs).toArray w := by
 unfold loadCells
 rw [run_loadCellsFrom b o vs n 0 #[] (fun j hj => by simpa using h j hj)]
 simp
theorem q5s : ∀ {c : List AV} {l : List PV},um c = some l → c = l.map .pv
 | [],l,h => by simp [um] at h; subst h; rfl
 | x :: r,l,h => by
  cases x <;> simp only [um] at h <;> try cases h
  split at h <;> cases h
  rename_i l' hl
  simp [q5s hl]
theorem q46 {c : List AV} {vs : List Value} (hl : c.length = vs.length) (hf : ∀ x ∈ c,x.flat = true)
  (h : ∀ (i : Nat) x v,c[i]? = some x → vs[i]? = some v → RA w H ι Im x v) : RA w H ι Im (q17 c) (.agg ⟨vs⟩) := by
 unfold q17
 split
 ·rename_i l hp
  have := q5s hp
  subst this
  refine .pv _ _ (.agg l vs (by simpa using hl) (fun p hp => ?_) fun i p v h1 h2 => ?_)
  ·have := hf (.pv p) (by simp [hp])
   simpa [AV.flat] using this
  ·have := h i (.pv p) v (by simp [h1]) h2
   cases this
   assumption
 ·exact .agg c vs hl hf h
theorem q4o {t : TypeId} {ti : TI} (ht : qb P t ti) (b o : Nat) (c : List AV) (vs : Nat → Value)
  (hc : ∀ i,i < c.length → w.cell? ⟨b,o + i,none⟩ = some (vs i)) (hf : ∀ x ∈ c,x.flat = true)
  (h : ∀ (i : Nat) x,c[i]? = some x → RA w H ι Im x (vs i)) {r : AV} (hr : ldA ti c = some r) :
  ∃ u,(loadVar t ⟨b,o,none⟩).run P w = .ok u w ∧ RA w H ι Im r u := by
 unfold ldA at hr
 unfold loadVar
 simp only [Sem.run_bind,ht.isAgg,Result.andThen_ok]
 by_cases ha : ti.isAgg = true
 ·simp only [ha,if_true] at hr ⊢
  split at hr <;> cases hr
  rename_i hlen
  refine ⟨.agg ⟨(List.range ti.size).map vs⟩, ?_,q46 (by simp; omega) (fun x hx => hf x (List.mem_of_mem_take hx)) ?_⟩
  ·simp only [Sem.run_bind,ht.size,Result.andThen_ok,run_loadCells b o ti.size vs (fun j hj => hc j (by omega)),Sem.run_pure]
  ·intro i x v h1 h2
   simp only [List.getElem?_map,Option.map_eq_some_iff] at h2
   obtain ⟨j,hj,rfl⟩ := h2
   by_cases hi : i < ti.size
   ·simp [hi] at hj
    subst hj
    rw [List.getElem?_take_of_lt hi] at h1
    exact h i x h1
   ·simp [hi] at hj
 ·simp only [ha,Bool.false_eq_true,if_false] at hr ⊢
  cases c with
  | nil => cases hr
  | cons x r' =>
   simp only [Option.some.injEq] at hr
   have h0 := hc 0 (by simp)
   simp only [Nat.add_zero] at h0
   refine ⟨vs 0,by simp [h0],hr ▸ h 0 x (by simp)⟩
theorem q7z {t : TypeId} {ti : TI} (ht : qb P t ti) (b o : Nat) (c : List PV) (vs : Nat → Value)
  (hc : ∀ i,i < c.length → w.cell? ⟨b,o + i,none⟩ = some (vs i)) (hf : ∀ x ∈ c,x.flat = true)
  (h : ∀ (i : Nat) x,c[i]? = some x → RP w Im x (vs i)) {r : AV} (hr : ldP ti c = some r) :
  ∃ u,(loadVar t ⟨b,o,none⟩).run P w = .ok u w ∧ RA w H ι Im r u := by
 unfold ldP at hr
 unfold loadVar
 simp only [Sem.run_bind,ht.isAgg,Result.andThen_ok]
 by_cases ha : ti.isAgg = true
 ·simp only [ha,if_true] at hr ⊢
  split at hr <;> cases hr
  rename_i hlen
  refine ⟨.agg ⟨(List.range ti.size).map vs⟩, ?_,.pv _ _ (.agg _ _ (by simp; omega) (fun x hx => hf x (List.mem_of_mem_take hx)) ?_)⟩
  ·simp only [Sem.run_bind,ht.size,Result.andThen_ok,run_loadCells b o ti.size vs (fun j hj => hc j (by omega)),Sem.run_pure]
  ·intro i x v h1 h2
   simp only [List.getElem?_map,Option.map_eq_some_iff] at h2
   obtain ⟨j,hj,rfl⟩ := h2
   by_cases hi : i < ti.size
   ·simp [hi] at hj
    subst hj
    rw [List.getElem?_take_of_lt hi] at h1
    exact h i x h1
   ·simp [hi] at hj
 ·simp only [ha,Bool.false_eq_true,if_false] at hr ⊢
  cases c with
  | nil => cases hr
  | cons x r' =>
   simp only [Option.some.injEq] at hr
   have h0 := hc 0 (by simp)
   simp only [Nat.add_zero] at h0
   refine ⟨vs 0,by simp [h0],hr ▸ .pv _ _ (h 0 x (by simp))⟩
end
end Go.Gm
set_option linter.unusedSectionVars false
namespace Go.Gm
open Go
section
variable [Globs] {P : Program} {w : World} {H : Heap} {ι : Plc} {Im : Nat → Prop}
theorem qa.box {β : Nat} {c : List AV} (hi : qa w H ι Im) (hb : H.get β = some (.box c)) :
  ∃ vs elem fz,w.heap[(ι β).b]? = some (.cells vs elem fz) ∧ xw fz vs.size ∧ c.length = vs.size ∧
   (∀ x ∈ c,x.flat = true) ∧ ∀ (i : Nat) x v,c[i]? = some x → vs[i]? = some v → RA w H ι Im x v := hi.blk β _ hb
theorem qa.row {β sz : Nat} {es : List (List PV)} (hi : qa w H ι Im) (hb : H.get β = some (.row false sz es)) :
  ∃ vs elem fz,w.heap[(ι β).b]? = some (.cells vs elem fz) ∧ xw fz vs.size ∧ vs.size = (ι β).cap * sz ∧ 0 < sz ∧
   es.length ≤ (ι β).cap ∧ (∀ e ∈ es,e.length = sz) ∧ (∀ (i : Nat) e (j : Nat) p,es[i]? = some e → e[j]? = some p → p.flat = true) ∧
   ∀ (i : Nat) e (j : Nat) p,es[i]? = some e → e[j]? = some p → ∃ v,vs[i * sz + j]? = some v ∧ RP w Im p v := hi.blk β _ hb
theorem qa.ql {β sz : Nat} {es : List (List AV)} (hi : qa w H ι Im) (hb : H.get β = some (.ql sz es)) :
  ∃ vs elem fz,w.heap[(ι β).b]? = some (.cells vs elem fz) ∧ xw fz vs.size ∧ vs.size = (ι β).cap * sz ∧ 0 < sz ∧
   es.length ≤ (ι β).cap ∧ (∀ e ∈ es,e.length = sz) ∧ (∀ (i : Nat) e (j : Nat) x,es[i]? = some e → e[j]? = some x → x.flat = true) ∧
   ∀ (i : Nat) e (j : Nat) x,es[i]? = some e → e[j]? = some x → ∃ v,vs[i * sz + j]? = some v ∧ RA w H ι Im x v := hi.blk β _ hb
theorem qa.qh {β : Nat} {ds : List Nat} {es : List PV} {foc : Option (Nat × Nat × Nat)} (hi : qa w H ι Im) (hb : H.get β = some (.qh false ds es foc)) :
  ∃ vs elem fz,w.heap[(ι β).b]? = some (.cells vs elem fz) ∧ xw fz vs.size ∧ vs.size = (ι β).cap ∧ es.length ≤ (ι β).cap ∧ (ι β).ks.length = es.length ∧
   ((ι β).b :: (ι β).ks.flatMap Sk.blocks).Nodup ∧ (∀ x ∈ (ι β).ks.flatMap Sk.blocks,x < w.heap.size) ∧ (∀ j γ ver,foc = some (j,γ,ver) → j < es.length) ∧
   ∀ (i : Nat) p k,es[i]? = some p → (ι β).ks[i]? = some k → ∃ v,vs[i]? = some v ∧
    ((∀ j γ ver,foc = some (j,γ,ver) → i ≠ j) → jg w Im ds p v k) ∧ (∀ γ ver,foc = some (i,γ,ver) → k = .leaf ∧ RA w H ι Im (.row γ ver 0 ver) v) := hi.blk β _ hb
theorem qa.z8 {β : Nat} {t : TypeId} {c : List AV} (hi : qa w H ι Im) (hb : H.get β = some (.z8 t c)) :
  ∃ vs fz,w.heap[(ι β).b]? = some (.cells vs t fz) ∧ xw fz vs.size ∧ c.length = vs.size ∧
   (∀ x ∈ c,x.flat = true) ∧ ∀ (i : Nat) x v,c[i]? = some x → vs[i]? = some v → RA w H ι Im x v := hi.blk β _ hb
theorem q1u (t : TypeId) (a : Addr) : (Instr.loadAt t (.pointer (some a))).run P w = (loadVar t a).run P w := by
 unfold Instr.loadAt Instr.sureAddr
 simp
theorem mem_of_getElem? {α : Type} {l : List α} {i : Nat} {x : α} (h : l[i]? = some x) : x ∈ l := List.mem_of_getElem? h
theorem qb5 {t : TypeId} {ti : TI} (ht : qb P t ti) (hi : qa w H ι Im) {x : AV} {v : Value} (hx : RA w H ι Im x v)
  {r : AV} (hr : ni ti x H = some r) : ∃ u,(Instr.loadAt t v).run P w = .ok u w ∧ RA w H ι Im r u := by
 unfold ni at hr
 split at hr
 ·rename_i β o
  split at hr <;> try cases hr
  ·rename_i c hb
   cases hx
   obtain ⟨vs,elem,fz,h1,h2,h3,h4,h5⟩ := hi.box hb
   rw [q1u]
   refine q4o ht _ o (c.drop o) (fun i => (vs[o + i]?).getD undef) (fun i hlt => ?_) (fun x hx => h4 x (List.mem_of_mem_drop hx)) (fun i x hx => ?_) hr
   ·rw [jw h1]
    have : o + i < vs.size := by simp at hlt; omega
    simp [this]
   ·rw [List.getElem?_drop] at hx
    have hlt : o + i < vs.size := by
     have := (List.getElem?_eq_some_iff.1 hx).1
     omega
    exact h5 (o + i) x _ hx (by simp [hlt])
  ·rename_i t' c hb
   cases hx
   obtain ⟨vs,fz,h1,h2,h3,h4,h5⟩ := hi.z8 hb
   rw [q1u]
   refine q4o ht _ o (c.drop o) (fun i => (vs[o + i]?).getD undef) (fun i hlt => ?_) (fun x hx => h4 x (List.mem_of_mem_drop hx)) (fun i x hx => ?_) hr
   ·rw [jw h1]
    have : o + i < vs.size := by simp at hlt; omega
    simp [this]
   ·rw [List.getElem?_drop] at hx
    have hlt : o + i < vs.size := by
     have := (List.getElem?_eq_some_iff.1 hx).1
     omega
    exact h5 (o + i) x _ hx (by simp [hlt])
 ·rename_i β ver i o
  split at hr <;> try cases hr
  ·rename_i sz es hb
   split at hr <;> try cases hr
   rename_i hver
   split at hr <;> try cases hr
   rename_i e he
   have hvv : v = .pointer (some ⟨(ι β).b,i * sz + o,none⟩) := by
    cases hx with
    | eptr _ _ _ _ b1 o1 b hb' hv h =>
     rw [hb] at hb'
     cases hb'
     obtain ⟨rfl,rfl⟩ := h _ _ _ rfl hver rfl
     rfl
   subst hvv
   obtain ⟨vs,elem,fz,h1,h2,h3,h4,h5,h6,h7,h8⟩ := hi.row hb
   rw [q1u]
   refine q7z ht _ (i * sz + o) (e.drop o) (fun j => (vs[i * sz + o + j]?).getD undef) (fun j hlt => ?_) (fun x hx => ?_) (fun j p hp => ?_) hr
   ·rw [jw h1]
    obtain ⟨p,hp⟩ : ∃ p,e[o + j]? = some p := by
     simp at hlt
     exact ⟨e[o + j]'(by omega),by simp⟩
    obtain ⟨v,g1,_⟩ := h8 i e (o + j) p he hp
    rw [Nat.add_assoc,g1]
    rfl
   ·obtain ⟨j,hj⟩ := List.getElem?_of_mem (List.mem_of_mem_drop hx)
    exact h7 i e j x he hj
   ·rw [List.getElem?_drop] at hp
    obtain ⟨v,g1,g2⟩ := h8 i e (o + j) p he hp
    simp only [Nat.add_assoc,g1,Option.getD_some]
    exact g2
  ·rename_i sz es hb
   split at hr <;> try cases hr
   rename_i hver
   split at hr <;> try cases hr
   rename_i e he
   have hvv : v = .pointer (some ⟨(ι β).b,i * sz + o,none⟩) := by
    cases hx with
    | eptr _ _ _ _ b1 o1 b hb' hv h =>
     rw [hb] at hb'
     cases hb'
     obtain ⟨rfl,rfl⟩ := h _ _ _ rfl hver rfl
     rfl
   subst hvv
   obtain ⟨vs,elem,fz,h1,h2,h3,h4,h5,h6,h7,h8⟩ := hi.ql hb
   rw [q1u]
   refine q4o ht _ (i * sz + o) (e.drop o) (fun j => (vs[i * sz + o + j]?).getD undef) (fun j hlt => ?_) (fun x hx => ?_) (fun j p hp => ?_) hr
   ·rw [jw h1]
    obtain ⟨p,hp⟩ : ∃ p,e[o + j]? = some p := by
     simp at hlt
     exact ⟨e[o + j]'(by omega),by simp⟩
    obtain ⟨v,g1,_⟩ := h8 i e (o + j) p he hp
    rw [Nat.add_assoc,g1]
    rfl
   ·obtain ⟨j,hj⟩ := List.getElem?_of_mem (List.mem_of_mem_drop hx)
    exact h7 i e j x he hj
   ·rw [List.getElem?_drop] at hp
    obtain ⟨v,g1,g2⟩ := h8 i e (o + j) p he hp
    simp only [Nat.add_assoc,g1,Option.getD_some]
    exact g2
  ·rename_i ds es j γ fv hb
   split at hr <;> try cases hr
   rename_i hc
   obtain ⟨hver,rfl,rfl⟩ := hc
   have hvv : v = .pointer (some ⟨(ι β).b,j * 1 + 0,none⟩) := by
    cases hx with
    | eptr _ _ _ _ b1 o1 b hb' hv h =>
     rw [hb] at hb'
     cases hb'
     obtain ⟨rfl,rfl⟩ := h _ _ _ rfl hver rfl
     rfl
   subst hvv
   obtain ⟨vs,elem,fz,h1,h2,h3,h4,h5,h6,h7,h8,h9⟩ := hi.qh hb
   have hj := h8 _ _ _ rfl
   obtain ⟨v0,g1,_,g3⟩ := h9 j es[j] (ι β).ks[j] (by simp [hj]) (by simp)
   have g4 := (g3 _ _ rfl).2
   rw [q1u,show j * 1 + 0 = j by omega]
   refine q4o ht _ j [.row γ fv 0 fv] (fun _ => v0) (fun k hlt => ?_) (fun x hx => by simp at hx; subst hx; rfl) (fun k p hp => ?_) hr
   ·rw [jw h1]
    have : k = 0 := by simpa using hlt
    subst this
    exact g1
   ·cases k with
    | zero => simp at hp; subst hp; exact g4
    | succ k => simp at hp
 ·rename_i c o
  cases hx
  rename_i b off vs him hc hf h
  rw [q1u]
  refine q7z ht _ (off + o) (c.drop o) (fun j => vs (o + j)) (fun j hlt => ?_) (fun x hx => hf x (List.mem_of_mem_drop hx)) (fun j p hp => ?_) hr
  ·rw [Nat.add_assoc]
   exact hc (o + j) (by simp at hlt; omega)
  ·rw [List.getElem?_drop] at hp
   exact h (o + j) p hp
 ·rename_i c
  cases hx with
  | pv _ _ h => cases h with
   | rp _ b off vs him hc hf h =>
    rw [q1u]
    exact q7z ht _ off c vs hc hf h hr
 ·cases hr
theorem qa5 {b o : Nat} {vs : Array Value} {elem : TypeId} {fz : Nat × Nat} {x : Value} (h : w.heap[b]? = some (.cells vs elem fz)) :
  (w.setCell ⟨b,o,none⟩ x).heap[b]? = some (.cells (vs.setIfInBounds o x) elem fz) := by
 obtain ⟨hlt,hv⟩ := Array.getElem?_eq_some_iff.1 h
 simp [World.setCell,hlt,hv,Array.getElem_modify]
theorem qcj {a : Addr} {x : Value} {b' : Nat} (hne : a.block ≠ b') : (w.setCell a x).heap[b']? = w.heap[b']? := by
 simp [World.setCell,Array.getElem?_modify,hne]
theorem qa7 {a : Addr} {x : Value} : (w.setCell a x).heap.size = w.heap.size := by
 simp [World.setCell]
theorem RP.zm {p : PV} {v : Value} (hp : p.flat = true) (h : RP w Im p v) : zm v = true := by
 cases h <;> first | rfl | cases hp
theorem RA.zm {x : AV} {v : Value} (hp : x.flat = true) (h : RA w H ι Im x v) : Go.Gm.zm v = true := by
 cases h with
 | pv p v h => exact h.zm hp
 | undef => cases hp
 | agg => cases hp
 | tup => cases hp
 | row _ _ _ _ _ _ ho => exact ho
 | _ => rfl
theorem run_store' {b o : Nat} {vs : Array Value} {elem : TypeId} {fz : Nat × Nat} {x : Value} (h : w.heap[b]? = some (.cells vs elem fz))
  (ho : o < vs.size) (hf : xw fz vs.size) (hx : zm x = true) : (store ⟨b,o,none⟩ x).run P w = .ok () (w.setCell ⟨b,o,none⟩ x) := by
 have hc : w.cell? ⟨b,o,none⟩ = some vs[o] := by rw [jw h]; simp [ho]
 have hz : w.frozen? ⟨b,o,none⟩ = false := by
  have := hf.2 o ho
  simp only [World.frozen?,h]
  simp only [Bool.and_eq_false_iff,decide_eq_false_iff_not]
  omega
 cases x <;> simp_all [store,Sem.run,zm]
theorem uz (b o : Nat) (elem : TypeId) (fz : Nat × Nat) : ∀ (xs : List Value) (i : Nat) (w : World) (vs : Array Value),w.heap[b]? = some (.cells vs elem fz) →
  xw fz vs.size → o + i + xs.length ≤ vs.size → (∀ x ∈ xs,zm x = true) →
  ∃ w',(storeCells ⟨b,o,none⟩ xs i).run P w = .ok () w' ∧ (w'.heap.size = w.heap.size ∧ w'.os = w.os ∧ w'.output = w.output) ∧ (∀ b',b' ≠ b → w'.heap[b']? = w.heap[b']?) ∧
   ∃ vs',w'.heap[b]? = some (.cells vs' elem fz) ∧ vs'.size = vs.size ∧ ∀ k,vs'[k]? = if o + i ≤ k ∧ k < o + i + xs.length then xs[k - (o + i)]? else vs[k]?
 | [],i,w,vs,h,_,_,_ => by
  refine ⟨w,by simp [storeCells],⟨rfl,rfl,rfl⟩,fun _ _ => rfl,vs,h,rfl,fun k => ?_⟩
  rw [if_neg (by simp)]
 | x :: r,i,w,vs,h,hf,hl,hx => by
  simp only [List.length_cons] at hl
  have h1 := run_store' (P := P) h (o := o + i) (x := x) (by omega) hf (hx x (by simp))
  have h2 := qa5 (o := o + i) (x := x) h
  obtain ⟨w',g1,g2,g3,vs',g4,g5,g6⟩ := uz b o elem fz r (i + 1) (w.setCell ⟨b,o + i,none⟩ x) _ h2 (by simpa using hf)
   (by simp; omega) (fun y hy => hx y (by simp [hy]))
  refine ⟨w', ?_,⟨by rw [g2.1,qa7],g2.2.1,g2.2.2⟩,fun b' hb' => by rw [g3 b' hb',qcj (by exact Ne.symm hb')],vs',g4,by simpa using g5,fun k => ?_⟩
  ·simp only [storeCells,add_plain,Sem.run_bind,h1,Result.andThen_ok,g1]
  ·rw [g6 k]
   simp only [List.length_cons,Array.getElem?_setIfInBounds]
   by_cases hk : o + (i + 1) ≤ k ∧ k < o + (i + 1) + r.length
   ·rw [if_pos hk,if_pos (by omega)]
    obtain ⟨j,rfl⟩ : ∃ j,k = o + i + (j + 1) := ⟨k - (o + i + 1),by omega⟩
    rw [show o + i + (j + 1) - (o + (i + 1)) = j from by omega,show o + i + (j + 1) - (o + i) = j + 1 from by omega]
    rfl
   ·rw [if_neg hk]
    by_cases hk2 : o + i = k
    ·subst hk2
     rw [if_pos rfl,if_pos (by omega),if_pos (by omega)]
     simp
    ·rw [if_neg hk2,if_neg (by omega)]
theorem AV.cells_ok {x : AV} {v : Value} (hx : RA w H ι Im x v) (hs : x.q0s = true) :
  x.cells.length = v.cells.size ∧ (∀ y ∈ x.cells,y.flat = true) ∧ (∀ u ∈ v.cells.toList,zm u = true) ∧
  ∀ (i : Nat) y u,x.cells[i]? = some y → v.cells.toList[i]? = some u → RA w H ι Im y u := by
 have one : x.flat = true → x.cells = [x] →
   x.cells.length = v.cells.size ∧ (∀ y ∈ x.cells,y.flat = true) ∧ (∀ u ∈ v.cells.toList,zm u = true) ∧
   ∀ (i : Nat) y u,x.cells[i]? = some y → v.cells.toList[i]? = some u → RA w H ι Im y u := by
  intro hf e1
  have ho := hx.zm hf
  have e2 : v.cells = #[v] := by cases v <;> first | rfl | cases ho
  rw [e1,e2]
  refine ⟨rfl,by simpa using hf,by simpa using ho,fun i y u hy hu => ?_⟩
  cases i with
  | zero => simp at hy hu; subst hy hu; exact hx
  | succ i => simp at hy
 have many : ∀ (c : List AV) (vs : List Value),c.length = vs.length → (∀ x ∈ c,x.flat = true) →
   (∀ (i : Nat) x v,c[i]? = some x → vs[i]? = some v → RA w H ι Im x v) → ∀ u ∈ vs,zm u = true := by
  intro c vs hl hf h u hu
  obtain ⟨i,hi⟩ := List.getElem?_of_mem hu
  have : i < c.length := by
   have := (List.getElem?_eq_some_iff.1 hi).1
   omega
  exact (h i c[i] u (by simp) hi).zm (hf _ (by simp))
 cases hx with
 | undef => cases hs
 | tup => cases hs
 | pv p v h =>
  by_cases hp : p.flat = true
  ·exact one hp (by cases p <;> first | rfl | cases hp)
  ·cases h with
   | agg c vs hl hf h =>
    have h' : ∀ (i : Nat) x v,(c.map AV.pv)[i]? = some x → vs[i]? = some v → RA w H ι Im x v := fun i y u hy hu => by
     simp only [List.getElem?_map,Option.map_eq_some_iff] at hy
     obtain ⟨p,hp,rfl⟩ := hy
     exact .pv _ _ (h i p u hp hu)
    have hf' : ∀ y ∈ c.map AV.pv,y.flat = true := fun y hy => by
     simp only [List.mem_map] at hy
     obtain ⟨p,hp,rfl⟩ := hy
     exact hf p hp
    exact ⟨by simpa [AV.cells,Value.cells] using hl,hf',many _ vs (by simpa using hl) hf' h',h'⟩
   | _ => exact absurd rfl hp
 | agg c vs hl hf h => exact ⟨by simpa [AV.cells,Value.cells] using hl,hf,many c vs hl hf h,h⟩
 | _ => exact one rfl rfl
theorem q0d {α : Type} (c xs : List α) (o k : Nat) (ho : o + xs.length ≤ c.length) :
  (c.take o ++ xs ++ c.drop (o + xs.length))[k]? = if o ≤ k ∧ k < o + xs.length then xs[k - o]? else c[k]? := by
 have hl : (c.take o).length = o := by simp; omega
 by_cases h1 : k < o
 ·rw [if_neg (by omega),List.append_assoc,List.getElem?_append_left (by omega),List.getElem?_take_of_lt h1]
 ·by_cases h2 : k < o + xs.length
  ·rw [if_pos (by omega),List.getElem?_append_left (by simp; omega),List.getElem?_append_right (by omega),hl]
  ·rw [if_neg (by omega),List.getElem?_append_right (by simp; omega),List.getElem?_drop]
   congr 1
   simp only [List.length_append,hl]
   omega
theorem q3k {t : TypeId} {ti : TI} (ht : qb P t ti) (a : Addr) (v : Value) (hs : v.cells.size = ti.size) :
  (Instr.storeAt t (.pointer (some a)) v).run P w = (storeCells a v.cells.toList).run P w := by
 unfold Instr.storeAt Instr.sureAddr storeVar
 simp [ht.size,hs]
theorem qcs {t : TypeId} {ti : TI} (ht : qb P t ti) (hi : qa w H ι Im) {y : AV} {va vv : Value} {β ver i o : Nat} (hx : RA w H ι Im (.eptr β ver i o) va)
  (c1 : y.cells.length = vv.cells.size) (c2 : ∀ x ∈ y.cells,x.flat = true) (c3 : ∀ u ∈ vv.cells.toList,zm u = true)
  (c4 : ∀ (i : Nat) x u,y.cells[i]? = some x → vv.cells.toList[i]? = some u → RA w H ι Im x u) (hlen : y.cells.length = ti.size)
  {sz : Nat} {es : List (List AV)} (hb : H.get β = some (.ql sz es)) {ws : List (Nat × Blk)} (hr : q1s sz β ver i o ti.size y.cells es = some ws) :
  ∃ w' ι',(Instr.storeAt t va vv).run P w = .ok () w' ∧ qa w' (qf ws H) ι' Im ∧ Evo w H ι Im w' (qf ws H) ι' Im ∧
   ∃ β b b',ws = [(β,b')] ∧ H.get β = some b := by
 unfold q1s at hr
 have hsz : vv.cells.size = ti.size := by omega
 split at hr
 rotate_left
 ·cases hr
 rename_i hver
 split at hr
 rotate_left
 ·cases hr
 rename_i e he
 split at hr
 rotate_left
 ·cases hr
 rename_i ho
 simp only [Option.some.injEq] at hr
 subst hr
 have hvv : va = .pointer (some ⟨(ι β).b,i * sz + o,none⟩) := by
  cases hx with
  | eptr _ _ _ _ b1 o1 b hb' hv h =>
   rw [hb] at hb'
   cases hb'
   obtain ⟨rfl,rfl⟩ := h _ _ _ rfl hver rfl
   rfl
 subst hvv
 obtain ⟨vs,elem,fz,h1,h2,h3,h4,h5,h6,h7,h8⟩ := hi.ql hb
 have hpl : y.cells.length = ti.size := hlen
 have hil : i < es.length := (List.getElem?_eq_some_iff.1 he).1
 have hel : e.length = sz := h6 e (List.mem_of_getElem? he)
 have hin : i * sz + sz ≤ vs.size := by
  rw [h3,← Nat.succ_mul]
  exact Nat.mul_le_mul_right _ (by omega)
 obtain ⟨w',g1,g2,g3,vs',g4,g5,g6⟩ := uz (P := P) (ι β).b (i * sz + o) elem fz vv.cells.toList 0 w vs h1 h2 (by simp; omega) c3
 rw [q3k ht _ _ hsz]
 refine ⟨w',qg ι β (ι β),g1, ?_⟩
 rw [← hpl] at ho ⊢
 have hset : ∀ (i' : Nat) e',(es.set i (e.take o ++ y.cells ++ e.drop (o + y.cells.length)))[i']? = some e' →
   (i' = i ∧ e' = e.take o ++ y.cells ++ e.drop (o + y.cells.length)) ∨ (i' ≠ i ∧ es[i']? = some e') := by
  intro i' e' h
  rw [List.getElem?_set] at h
  by_cases hii : i = i'
  ·subst hii
   simp [hil] at h
   exact .inl ⟨rfl,by rw [← h]; simp⟩
  ·simp [hii] at h
   exact .inr ⟨Ne.symm hii,h⟩
 have key := qa.put (hno := noO hb rfl) hi (w' := w') β (.ql sz (es.set i (e.take o ++ y.cells ++ e.drop (o + y.cells.length)))) (ι β)
  (fun x hx => by rw [hb] at hx; cases hx; simp [qo,Blk.sh,Pl.same])
  ⟨by omega,g2.2⟩ (fun b' _ hne => g3 b' (fun e => hne _ hb rfl e.symm)) (fun _ => .inr ⟨_,hb,rfl,rfl⟩) (fun hev => by
   refine ⟨vs',elem,fz,by simpa using g4,by rw [g5]; exact h2,by rw [g5,h3]; simp,h4,by simpa using h5, ?_, ?_, ?_⟩
   ·intro e' he'
    obtain ⟨i',hi'⟩ := List.getElem?_of_mem he'
    rcases hset i' e' hi' with ⟨_,rfl⟩ | ⟨_,h⟩
    ·simp; omega
    ·exact h6 e' (List.mem_of_getElem? h)
   ·intro i' e' j p hi' hj
    rcases hset i' e' hi' with ⟨_,rfl⟩ | ⟨_,h⟩
    ·rw [q0d e y.cells o j ho] at hj
     split at hj
     ·exact c2 _ (List.mem_of_getElem? hj)
     ·exact h7 i e j p he hj
    ·exact h7 i' e' j p h hj
   ·intro i' e' j p hi' hj
    have hjl : j < sz := by
     rcases hset i' e' hi' with ⟨_,rfl⟩ | ⟨_,h⟩
     ·have := (List.getElem?_eq_some_iff.1 hj).1
      simp at this
      omega
     ·have := (List.getElem?_eq_some_iff.1 hj).1
      have := h6 e' (List.mem_of_getElem? h)
      omega
    rw [g6]
    simp only [Nat.add_zero,Array.length_toList]
    have hvl : vv.cells.size = y.cells.length := by omega
    rw [hvl]
    rcases hset i' e' hi' with ⟨rfl,rfl⟩ | ⟨hne,h⟩
    ·rw [q0d e y.cells o j ho] at hj
     split at hj
     ·rename_i hc
      rw [if_pos (by omega),show i' * sz + j - (i' * sz + o) = j - o from by omega]
      obtain ⟨u,hu⟩ : ∃ u,vv.cells.toList[j - o]? = some u := ⟨vv.cells.toList[j - o]'(by simp; omega),by simp⟩
      exact ⟨u,hu,(c4 _ p u hj hu).mono hi hev⟩
     ·rename_i hc
      rw [if_neg (by omega)]
      obtain ⟨u,hu,hr⟩ := h8 i' e j p he hj
      exact ⟨u,hu,hr.mono hi hev⟩
    ·obtain ⟨u,hu,hr⟩ := h8 i' e' j p h hj
     have hout : ¬ (i * sz + o ≤ i' * sz + j ∧ i' * sz + j < i * sz + o + y.cells.length) := by
      rcases Nat.lt_or_gt_of_ne hne with hlt | hgt
      ·have : (i' + 1) * sz ≤ i * sz := Nat.mul_le_mul_right _ hlt
       rw [Nat.succ_mul] at this
       omega
      ·have : (i + 1) * sz ≤ i' * sz := Nat.mul_le_mul_right _ hgt
       rw [Nat.succ_mul] at this
       omega
     rw [if_neg hout]
     exact ⟨u,hu,hr.mono hi hev⟩)
 exact ⟨key.1,key.2,β,_,_,rfl,hb⟩
theorem q25 {ks : List Sk} {i x : Nat} (h : x ∈ (ks.set i .leaf).flatMap Sk.blocks) : x ∈ ks.flatMap Sk.blocks := by
 rw [List.mem_flatMap] at h ⊢
 obtain ⟨k,hk,hx⟩ := h
 rcases List.mem_or_eq_of_mem_set hk with h | h
 ·exact ⟨k,h,hx⟩
 ·subst h
  simp [Sk.blocks] at hx
theorem q6y : ∀ {ks : List Sk} {i : Nat},(ks.flatMap Sk.blocks).Nodup → ((ks.set i .leaf).flatMap Sk.blocks).Nodup
 | [],i,h => by simp
 | k :: r,0,h => by
  simp only [List.set_cons_zero,List.flatMap_cons,Sk.blocks,List.nil_append]
  rw [List.flatMap_cons,List.nodup_append] at h
  exact h.2.1
 | k :: r,i + 1,h => by
  rw [List.set_cons_succ,List.flatMap_cons,List.nodup_append]
  rw [List.flatMap_cons,List.nodup_append] at h
  exact ⟨h.1,q6y h.2.1,fun a ha b hb => h.2.2 a ha b (q25 hb)⟩
theorem z1n {t : TypeId} {ti : TI} (ht : qb P t ti) (hi : qa w H ι Im) {y : AV} {va vv : Value} {β ver i o : Nat} (hx : RA w H ι Im (.eptr β ver i o) va) (hy : RA w H ι Im y vv)
  {ds : List Nat} {es : List PV} {foc : Option (Nat × Nat × Nat)} (hb : H.get β = some (.qh false ds es foc)) {ws : List (Nat × Blk)} (hr : q44 β ver i o ti.size y ds es foc = some ws) :
  ∃ w' ι',(Instr.storeAt t va vv).run P w = .ok () w' ∧ qa w' (qf ws H) ι' Im ∧ Evo w H ι Im w' (qf ws H) ι' Im ∧
   ∃ β b b',ws = [(β,b')] ∧ H.get β = some b := by
 unfold q44 at hr
 split at hr
 rotate_left
 ·cases hr
 rename_i γ fv n
 split at hr
 rotate_left
 ·cases hr
 rename_i hc
 obtain ⟨hver,hil,rfl,hsz,rfl,hfree⟩ := hc
 simp only [Option.some.injEq] at hr
 subst hr
 have hvv : va = .pointer (some ⟨(ι β).b,i * 1 + 0,none⟩) := by
  cases hx with
  | eptr _ _ _ _ b1 o1 b hb' hv h =>
   rw [hb] at hb'
   cases hb'
   obtain ⟨rfl,rfl⟩ := h _ _ _ rfl hver rfl
   rfl
 subst hvv
 rw [show i * 1 + 0 = i by omega]
 have hone : zm vv = true := by
  cases hy with
  | row _ _ _ _ _ _ ho => exact ho
 have hcl : vv.cells = #[vv] := by cases vv <;> first | rfl | cases hone
 obtain ⟨vs,elem,fz,h1,h2,h3,h4,h5,h6,h7,h8,h9⟩ := hi.qh hb
 obtain ⟨w',g1,g2,g3,vs',g4,g5,g6⟩ := uz (P := P) (ι β).b i elem fz vv.cells.toList 0 w vs h1 h2 (by simp [hcl]; omega) (by simpa [hcl] using hone)
 rw [q3k ht _ _ (by rw [hcl,hsz]; rfl)]
 have hw : ∀ b,Im b → w'.heap[b]? = w.heap[b]? := fun b hb' => g3 b (fun e => hi.nim β _ b hb ⟨rfl,.inl e⟩ hb')
 obtain ⟨hn1,hn2⟩ := List.nodup_cons.1 h6
 refine ⟨w',qg ι β ⟨(ι β).b,(ι β).cap,(ι β).ks.set i .leaf⟩,g1, ?_⟩
 have key := qa.q1q hi (w' := w') β (.qh false ds es (some (i,γ,n))) ⟨(ι β).b,(ι β).cap,(ι β).ks.set i .leaf⟩
  (fun x hx => by rw [hb] at hx; cases hx; simp [qo,Blk.sh,Pl.same])
  ⟨by omega,g2.2⟩ (fun b' _ hne => g3 b' (fun e => hne _ hb ⟨rfl,.inl e⟩)) (fun z hz => .inr ⟨_,hb,rfl,hz.2.imp id fun h => ⟨rfl,q25 h.2⟩⟩) (fun hev => by
   refine ⟨vs',elem,fz,by simpa using g4,by rw [g5]; exact h2,by rw [g5,h3]; simp,by simpa using h4,by simpa using h5, ?_,fun x hx => ?_,fun j γ' ver' hf => ?_,fun i' p k hp hk => ?_⟩
   ·simp only [updP_same]
    exact List.nodup_cons.2 ⟨fun h => hn1 (q25 h),q6y hn2⟩
   ·simp only [updP_same] at hx
    rw [g2.1]
    exact h7 x (q25 hx)
   ·cases hf
    exact hil
   ·simp only [updP_same] at hk
    have hg6 := g6 i'
    simp only [hcl,Nat.add_zero,Array.length_toList,List.size_toArray,List.length_cons,List.length_nil,Nat.zero_add] at hg6
    by_cases hii : i = i'
    ·subst hii
     rw [if_pos (by omega)] at hg6
     simp only [Nat.sub_self,List.getElem?_cons_zero] at hg6
     refine ⟨vv,hg6,fun h => absurd rfl (h _ _ _ rfl),fun γ' ver' hf => ?_⟩
     cases hf
     rw [List.getElem?_set_self (by omega)] at hk
     cases hk
     exact ⟨rfl,hy.mono hi hev⟩
    ·rw [if_neg (by omega)] at hg6
     rw [List.getElem?_set_ne hii] at hk
     obtain ⟨v0,k1,k2,k3⟩ := h9 i' p k hp hk
     refine ⟨v0,by rw [hg6]; exact k1,fun _ => ?_,fun γ' ver' hf => by cases hf; exact absurd rfl hii⟩
     refine (k2 fun j γ' ver' hf e => ?_).mono hev.im hw fun x hx => g3 x fun e => ?_
     ·subst e
      rw [hf] at hfree
      simp only [q9c,decide_eq_true_eq] at hfree
      exact hii hfree.symm
     ·subst e
      exact hn1 (List.mem_flatMap.2 ⟨k,List.mem_of_getElem? hk,hx⟩))
 exact ⟨key.1,key.2,β,_,_,rfl,hb⟩
theorem ze9 {t : TypeId} {ti : TI} (ht : qb P t ti) (hi : qa w H ι Im) {x y : AV} {va vv : Value} (hx : RA w H ι Im x va) (hy : RA w H ι Im y vv)
  {ws : List (Nat × Blk)} (hr : q02 ti x y H = some ws) :
  ∃ w' ι',(Instr.storeAt t va vv).run P w = .ok () w' ∧ qa w' (qf ws H) ι' Im ∧ Evo w H ι Im w' (qf ws H) ι' Im ∧
   ∃ β b b',ws = [(β,b')] ∧ H.get β = some b := by
 unfold q02 at hr
 split at hr
 rotate_left
 ·cases hr
 rename_i hc
 obtain ⟨hst,hlen⟩ := hc
 obtain ⟨c1,c2,c3,c4⟩ := AV.cells_ok hy hst
 have hsz : vv.cells.size = ti.size := by omega
 split at hr
 ·rename_i β o
  split at hr
  ·rename_i c hb
   split at hr
   rotate_left
   ·cases hr
   rename_i ho
   simp only [Option.some.injEq] at hr
   subst hr
   cases hx
   obtain ⟨vs,elem,fz,h1,h2,h3,h4,h5⟩ := hi.box hb
   obtain ⟨w',g1,g2,g3,vs',g4,g5,g6⟩ := uz (P := P) (ι β).b o elem fz vv.cells.toList 0 w vs h1 h2 (by simp; omega) c3
   rw [q3k ht _ _ hsz]
   refine ⟨w',qg ι β (ι β),g1, ?_⟩
   rw [← hlen] at ho ⊢
   have key := qa.put (hno := noO hb rfl) hi (w' := w') β (.box (c.take o ++ y.cells ++ c.drop (o + y.cells.length))) (ι β) (fun x hx => by rw [hb] at hx; cases hx; rfl)
    ⟨by omega,g2.2⟩ (fun b' _ hne => g3 b' (fun e => hne _ hb rfl e.symm)) (fun _ => .inr ⟨_,hb,rfl,rfl⟩) (fun he => by
     refine ⟨vs',elem,fz,by simpa using g4,by rw [g5]; exact h2,by simp; omega, ?_, ?_⟩
     ·intro x hx
      simp only [List.mem_append] at hx
      rcases hx with (hx | hx) | hx
      ·exact h4 x (List.mem_of_mem_take hx)
      ·exact c2 x hx
      ·exact h4 x (List.mem_of_mem_drop hx)
     ·intro i x v hx hv
      rw [q0d c y.cells o i ho] at hx
      rw [g6 i] at hv
      simp only [Nat.add_zero,Array.length_toList,← c1] at hv
      refine RA.mono hi he ?_
      split at hx
      ·rename_i hc
       rw [if_pos hc] at hv
       exact c4 _ x v hx hv
      ·rename_i hc
       rw [if_neg hc] at hv
       exact h5 i x v hx hv)
   exact ⟨key.1,key.2,β,_,_,rfl,hb⟩
  ·rename_i t' c hb
   split at hr
   rotate_left
   ·cases hr
   rename_i ho
   simp only [Option.some.injEq] at hr
   subst hr
   cases hx
   obtain ⟨vs,fz,h1,h2,h3,h4,h5⟩ := hi.z8 hb
   obtain ⟨w',g1,g2,g3,vs',g4,g5,g6⟩ := uz (P := P) (ι β).b o t' fz vv.cells.toList 0 w vs h1 h2 (by simp; omega) c3
   rw [q3k ht _ _ hsz]
   refine ⟨w',qg ι β (ι β),g1, ?_⟩
   rw [← hlen] at ho ⊢
   have key := qa.put (hno := noO hb rfl) hi (w' := w') β (.z8 t' (c.take o ++ y.cells ++ c.drop (o + y.cells.length))) (ι β) (fun x hx => by rw [hb] at hx; cases hx; rfl)
    ⟨by omega,g2.2⟩ (fun b' _ hne => g3 b' (fun e => hne _ hb rfl e.symm)) (fun _ => .inr ⟨_,hb,rfl,rfl⟩) (fun he => by
     refine ⟨vs',fz,by simpa using g4,by rw [g5]; exact h2,by simp; omega, ?_, ?_⟩
     ·intro x hx
      simp only [List.mem_append] at hx
      rcases hx with (hx | hx) | hx
      ·exact h4 x (List.mem_of_mem_take hx)
      ·exact c2 x hx
      ·exact h4 x (List.mem_of_mem_drop hx)
     ·intro i x v hx hv
      rw [q0d c y.cells o i ho] at hx
      rw [g6 i] at hv
      simp only [Nat.add_zero,Array.length_toList,← c1] at hv
      refine RA.mono hi he ?_
      split at hx
      ·rename_i hc
       rw [if_pos hc] at hv
       exact c4 _ x v hx hv
      ·rename_i hc
       rw [if_neg hc] at hv
       exact h5 i x v hx hv)
   exact ⟨key.1,key.2,β,_,_,rfl,hb⟩
  ·cases hr
 ·rename_i β ver i o
  split at hr
  ·rename_i ps hps
   split at hr
   ·rename_i sz es hb
    split at hr
    rotate_left
    ·cases hr
    rename_i hver
    split at hr
    rotate_left
    ·cases hr
    rename_i e he
    split at hr
    rotate_left
    ·cases hr
    rename_i ho
    simp only [Option.some.injEq] at hr
    subst hr
    have hvv : va = .pointer (some ⟨(ι β).b,i * sz + o,none⟩) := by
     cases hx with
     | eptr _ _ _ _ b1 o1 b hb' hv h =>
      rw [hb] at hb'
      cases hb'
      obtain ⟨rfl,rfl⟩ := h _ _ _ rfl hver rfl
      rfl
    subst hvv
    obtain ⟨vs,elem,fz,h1,h2,h3,h4,h5,h6,h7,h8⟩ := hi.row hb
    have hps' := q5s hps
    have hpl : ps.length = ti.size := by rw [← hlen,hps']; simp
    have hil : i < es.length := (List.getElem?_eq_some_iff.1 he).1
    have hel : e.length = sz := h6 e (List.mem_of_getElem? he)
    have hin : i * sz + sz ≤ vs.size := by
     rw [h3,← Nat.succ_mul]
     exact Nat.mul_le_mul_right _ (by omega)
    obtain ⟨w',g1,g2,g3,vs',g4,g5,g6⟩ := uz (P := P) (ι β).b (i * sz + o) elem fz vv.cells.toList 0 w vs h1 h2 (by simp; omega) c3
    rw [q3k ht _ _ hsz]
    refine ⟨w',qg ι β (ι β),g1, ?_⟩
    rw [← hpl] at ho ⊢
    have hset : ∀ (i' : Nat) e',(es.set i (e.take o ++ ps ++ e.drop (o + ps.length)))[i']? = some e' →
      (i' = i ∧ e' = e.take o ++ ps ++ e.drop (o + ps.length)) ∨ (i' ≠ i ∧ es[i']? = some e') := by
     intro i' e' h
     rw [List.getElem?_set] at h
     by_cases hii : i = i'
     ·subst hii
      simp [hil] at h
      exact .inl ⟨rfl,by rw [← h]; simp⟩
     ·simp [hii] at h
      exact .inr ⟨Ne.symm hii,h⟩
    have hpf : ∀ (j : Nat) p,ps[j]? = some p → p.flat = true ∧ ∀ u,vv.cells.toList[j]? = some u → RP w Im p u := by
     intro j p hp
     have hy : y.cells[j]? = some (.pv p) := by rw [hps']; simp [hp]
     refine ⟨c2 _ (List.mem_of_getElem? hy),fun u hu => ?_⟩
     have := c4 j _ u hy hu
     cases this
     assumption
    have key := qa.put (hno := noO hb rfl) hi (w' := w') β (.row false sz (es.set i (e.take o ++ ps ++ e.drop (o + ps.length)))) (ι β)
     (fun x hx => by rw [hb] at hx; cases hx; simp [qo,Blk.sh,Pl.same])
     ⟨by omega,g2.2⟩ (fun b' _ hne => g3 b' (fun e => hne _ hb rfl e.symm)) (fun _ => .inr ⟨_,hb,rfl,rfl⟩) (fun hev => by
      have hw : ∀ b,Im b → w'.heap[b]? = w.heap[b]? := fun b hb => hev.kept hi b hb
      refine ⟨vs',elem,fz,by simpa using g4,by rw [g5]; exact h2,by rw [g5,h3]; simp,h4,by simpa using h5, ?_, ?_, ?_⟩
      ·intro e' he'
       obtain ⟨i',hi'⟩ := List.getElem?_of_mem he'
       rcases hset i' e' hi' with ⟨_,rfl⟩ | ⟨_,h⟩
       ·simp; omega
       ·exact h6 e' (List.mem_of_getElem? h)
      ·intro i' e' j p hi' hj
       rcases hset i' e' hi' with ⟨_,rfl⟩ | ⟨_,h⟩
       ·rw [q0d e ps o j ho] at hj
        split at hj
        ·exact (hpf _ p hj).1
        ·exact h7 i e j p he hj
       ·exact h7 i' e' j p h hj
      ·intro i' e' j p hi' hj
       have hjl : j < sz := by
        rcases hset i' e' hi' with ⟨_,rfl⟩ | ⟨_,h⟩
        ·have := (List.getElem?_eq_some_iff.1 hj).1
         simp at this
         omega
        ·have := (List.getElem?_eq_some_iff.1 hj).1
         have := h6 e' (List.mem_of_getElem? h)
         omega
       rw [g6]
       simp only [Nat.add_zero,Array.length_toList]
       have hvl : vv.cells.size = ps.length := by omega
       rw [hvl]
       rcases hset i' e' hi' with ⟨rfl,rfl⟩ | ⟨hne,h⟩
       ·rw [q0d e ps o j ho] at hj
        split at hj
        ·rename_i hc
         rw [if_pos (by omega),show i' * sz + j - (i' * sz + o) = j - o from by omega]
         obtain ⟨u,hu⟩ : ∃ u,vv.cells.toList[j - o]? = some u := ⟨vv.cells.toList[j - o]'(by simp; omega),by simp⟩
         exact ⟨u,hu,((hpf _ p hj).2 u hu).mono hev.im hw⟩
        ·rename_i hc
         rw [if_neg (by omega)]
         obtain ⟨u,hu,hr⟩ := h8 i' e j p he hj
         exact ⟨u,hu,hr.mono hev.im hw⟩
       ·obtain ⟨u,hu,hr⟩ := h8 i' e' j p h hj
        have hout : ¬ (i * sz + o ≤ i' * sz + j ∧ i' * sz + j < i * sz + o + ps.length) := by
         rcases Nat.lt_or_gt_of_ne hne with hlt | hgt
         ·have : (i' + 1) * sz ≤ i * sz := Nat.mul_le_mul_right _ hlt
          rw [Nat.succ_mul] at this
          omega
         ·have : (i + 1) * sz ≤ i' * sz := Nat.mul_le_mul_right _ hgt
          rw [Nat.succ_mul] at this
          omega
        rw [if_neg hout]
        exact ⟨u,hu,hr.mono hev.im hw⟩)
    exact ⟨key.1,key.2,β,_,_,rfl,hb⟩
   ·rename_i sz es hb
    exact qcs ht hi hx c1 c2 c3 c4 hlen hb hr
   ·cases hr
  ·split at hr
   ·rename_i sz es hb
    exact qcs ht hi hx c1 c2 c3 c4 hlen hb hr
   ·rename_i ds es foc hb
    exact z1n ht hi hx hy hb hr
   ·cases hr
 ·cases hr
end
end Go.Gm
set_option linter.unusedSectionVars false
namespace Go.Gm
open Go
section
variable [Globs] {P : Program} {w : World} {H : Heap} {ι : Plc} {Im : Nat → Prop}
theorem qb.struct {t : TypeId} {ti : TI} (ht : qb P t ti) {fs : List (Nat × Nat × TypeId)} (h : ti.td = .struct fs) :
  ∃ fields,P.underlying t = some (.struct fields) ∧ fs = fields.toList.map fun f => (f.offset,P.cellsOf f.type,f.type) := by
 obtain ⟨d,h1,h2⟩ := ht.und
 rw [h] at h2
 cases d <;> simp [yl] at h2
 exact ⟨_,h1,h2.symm⟩
theorem qb.array {t : TypeId} {ti : TI} (ht : qb P t ti) {n : Nat} {e : TypeId} (h : ti.td = .array n e) : P.underlying t = some (.array n e) := by
 obtain ⟨d,h1,h2⟩ := ht.und
 rw [h] at h2
 cases d <;> simp [yl] at h2
 obtain ⟨rfl,rfl⟩ := h2
 exact h1
theorem qb.slice {t : TypeId} {ti : TI} (ht : qb P t ti) {e : TypeId} (h : ti.td = .slice e) : P.underlying t = some (.slice e) := by
 obtain ⟨d,h1,h2⟩ := ht.und
 rw [h] at h2
 cases d <;> simp [yl] at h2
 obtain rfl := h2
 exact h1
theorem qb.map {t : TypeId} {ti : TI} (ht : qb P t ti) {k e : TypeId} (h : ti.td = .map k e) : P.underlying t = some (.map k e) := by
 obtain ⟨d,h1,h2⟩ := ht.und
 rw [h] at h2
 cases d <;> simp [yl] at h2
 obtain ⟨rfl,rfl⟩ := h2
 exact h1
theorem qb.int {t : TypeId} {ti : TI} (ht : qb P t ti) {k : IntKind} (h : ti.td = .int k) : P.underlying t = some (.int k) := by
 obtain ⟨d,h1,h2⟩ := ht.und
 rw [h] at h2
 cases d <;> simp [yl] at h2
 obtain rfl := h2
 exact h1
theorem qb.string {t : TypeId} {ti : TI} (ht : qb P t ti) (h : ti.td = .string) : P.underlying t = some .string := by
 obtain ⟨d,h1,h2⟩ := ht.und
 rw [h] at h2
 cases d <;> simp [yl] at h2
 exact h1
theorem qb.bool {t : TypeId} {ti : TI} (ht : qb P t ti) (h : ti.td = .bool) : P.underlying t = some .bool := by
 obtain ⟨d,h1,h2⟩ := ht.und
 rw [h] at h2
 cases d <;> simp [yl] at h2
 exact h1
theorem cellsOf_size {t : TypeId} (h : 0 < P.cellsOf t) : (sizeOf t).run P w = .ok (P.cellsOf t) w := by
 unfold Program.cellsOf at h ⊢
 cases hi : P.info? t with
 | none => simp [hi] at h
 | some i => simp [sizeOf,q1w hi]
theorem qb.cellsOf {t : TypeId} {ti : TI} (ht : qb P t ti) : P.cellsOf t = ti.size := by
 obtain ⟨i,z,h1,h2,_⟩ := ht.info
 simp [Program.cellsOf,h1,h2]
theorem q4q (b o : Nat) (f : Field) (h : 0 < P.cellsOf f.type) : (fieldPlace ⟨b,o,none⟩ f).run P w = .ok ⟨b,o + f.offset,none⟩ w := by
 unfold fieldPlace
 have : ¬ P.cellsOf f.type = 0 := by omega
 simp [cellsOf_size h,this,add_plain]
theorem zpl {t : TypeId} {ti : TI} (ht : qb P t ti) {x : AV} {v : Value} (hx : RA w H ι Im x v)
  {f : Nat} {r : AV} (hr : q4m ti.td x f = some r) : ∃ u,(Instr.fieldAt t v f).run P w = .ok u w ∧ RA w H ι Im r u := by
 unfold q4m at hr
 split at hr
 rotate_left
 ·cases hr
 rename_i fs htd
 obtain ⟨fields,hu,rfl⟩ := ht.struct htd
 split at hr
 rotate_left
 ·cases hr
 rename_i o' s te hf
 split at hr
 rotate_left
 ·cases hr
 rename_i hs
 simp only [List.getElem?_map,Option.map_eq_some_iff] at hf
 obtain ⟨fd,hf,hfe⟩ := hf
 simp only [Prod.mk.injEq] at hfe
 obtain ⟨rfl,rfl,rfl⟩ := hfe
 have hfa : fields[f]? = some fd := by rw [← hf]; simp
 unfold Instr.fieldAt Instr.sureAddr
 split at hr
 ·rename_i β o
  cases hr
  cases hx with
  | ptr _ _ c hb hk =>
   refine ⟨.pointer (some ⟨(ι β).b,o + fd.offset,none⟩), ?_,.ptr β _ c hb hk⟩
   simp [qi hu,hfa,q4q _ _ fd hs]
 ·rename_i β ver j o
  cases hr
  cases hx with
  | eptr _ _ _ _ b' o' b hb hver h =>
   refine ⟨.pointer (some ⟨b',o' + fd.offset,none⟩), ?_,.eptr β ver j _ b' _ b hb hver fun isnil sz es e hv hn => ?_⟩
   ·simp [qi hu,hfa,q4q _ _ fd hs]
   ·obtain ⟨g1,g2⟩ := h isnil sz es e hv hn
    exact ⟨g1,by omega⟩
 ·rename_i c o
  cases hr
  cases hx with
  | rptr _ _ b off vs him hc hf h =>
   refine ⟨.pointer (some ⟨b,off + o + fd.offset,none⟩), ?_, ?_⟩
   ·simp [qi hu,hfa,q4q _ _ fd hs]
   ·rw [Nat.add_assoc]
    exact .rptr c _ b off vs him hc hf h
 ·rename_i c
  cases hr
  cases hx with
  | pv _ _ h => cases h with
   | rp _ b off vs him hc hf h =>
    refine ⟨.pointer (some ⟨b,off + fd.offset,none⟩), ?_,.rptr c _ b off vs him hc hf h⟩
    simp [qi hu,hfa,q4q _ _ fd hs]
 ·cases hr
theorem q2s {x : AV} {v : Value} (hx : RA w H ι Im x v) {k : Nat} (h : zy x = some k) : ∃ kd,v = .int kd (k : Int) := by
 unfold zy at h
 split at h
 ·split at h <;> cases h
  rename_i kd n hn
  cases hx with
  | pv _ _ h =>
   cases h
   exact ⟨kd,by rw [Int.toNat_of_nonneg hn]⟩
 ·cases h
theorem ql4 {G : TypeId → Option TI} (hG : ∀ t ti,G t = some ti → qb P t ti) {t : TypeId} {ti : TI} (ht : qb P t ti) (hi : qa w H ι Im)
  {x y : AV} {v u : Value} (hx : RA w H ι Im x v) (hy : RA w H ι Im y u) {r : AV} (hr : q2i ti.td G x y H = some r) :
  ∃ z,(Instr.indexAt t v u).run P w = .ok z w ∧ RA w H ι Im r z := by
 unfold q2i at hr
 split at hr
 ·cases hr
 rename_i k hk
 obtain ⟨kd,rfl⟩ := q2s hy hk
 split at hr
 ·rename_i e htd
  have hu := ht.slice htd
  split at hr
  ·cases hr
  rename_i te hte
  have hte' := hG _ _ hte
  split at hr
  ·rename_i isnil sz es
   split at hr
   rotate_left
   ·cases hr
   rename_i hsz
   split at hr <;> cases hr
   rename_i c hc
   have hkl : k < es.length := (List.getElem?_eq_some_iff.1 hc).1
   cases hx with
   | pv _ _ h => cases h with
    | nilsl sz => simp at hkl
    | sl _ _ b off cap vs him hcap hs hcell hf h sp hsp =>
     obtain rfl := hsp (by intro e; subst e; simp at hkl)
     refine ⟨.pointer (some ⟨b,off + k * sz,none⟩), ?_, ?_⟩
     ·unfold Instr.indexAt asIntOf
      simp [qi hu,hkl,hte'.size,add_plain,hsz]
     ·have := RA.rptr (w := w) (H := H) (ι := ι) (Im := Im) c 0 b (off + k * sz) (fun j => vs (k * sz + j)) (him (by intro e; subst e; simp at hkl)) (fun j hj => ?_) (fun p hp => ?_) (fun j p hp => h k c j p hc hp)
      ·simpa using this
      ·have hcs := hs c (List.mem_of_getElem? hc)
       rw [Nat.add_assoc]
       refine hcell _ ?_
       have : (k + 1) * sz ≤ es.length * sz := Nat.mul_le_mul_right _ hkl
       rw [Nat.succ_mul] at this
       omega
      ·obtain ⟨j,hj⟩ := List.getElem?_of_mem hp
       exact hf k c j p hc hj
  ·rename_i β ver off n
   split at hr
   ·rename_i sz es hb
    split at hr <;> cases hr
    rename_i hc
    obtain ⟨hver,hsz,hkn⟩ := hc
    cases hx with
    | row _ _ _ _ _ b ho hb' hk' hver' h =>
     rw [hb] at hb'
     cases hb'
     obtain ⟨h1,h2⟩ := h _ _ _ rfl hver
     simp only [Bool.false_eq_true,if_false] at h2
     obtain ⟨a,rfl,ha1,ha2,ha3⟩ := h2
     obtain ⟨vs,elem,fz,g1,g2,g3,g4,g5,_⟩ := hi.row hb
     have ha4 := ha3 (by omega)
     obtain ⟨ab,ao,asp⟩ := a
     simp only at ha1 ha2 ha4
     subst ha1 ha2 ha4
     refine ⟨.pointer (some ⟨(ι β).b,off * sz + k * sz,none⟩), ?_,.eptr β ver (off + k) 0 _ _ _ hb (fun _ _ _ e => by cases e; omega) fun _ _ _ e _ _ => ?_⟩
     ·unfold Instr.indexAt asIntOf
      simp [qi hu,hkn,hte'.size,add_plain,hsz]
     ·cases e
      exact ⟨rfl,by rw [Nat.add_mul]; rfl⟩
   ·rename_i sz es hb
    split at hr <;> cases hr
    rename_i hc
    obtain ⟨hver,hsz,hkn⟩ := hc
    cases hx with
    | row _ _ _ _ _ b ho hb' hk' hver' h =>
     rw [hb] at hb'
     cases hb'
     obtain ⟨h1,h2⟩ := h _ _ _ rfl hver
     simp only [Bool.false_eq_true,if_false] at h2
     obtain ⟨a,rfl,ha1,ha2,ha3⟩ := h2
     obtain ⟨vs,elem,fz,g1,g2,g3,g4,g5,_⟩ := hi.ql hb
     have ha4 := ha3 (by omega)
     obtain ⟨ab,ao,asp⟩ := a
     simp only at ha1 ha2 ha4
     subst ha1 ha2 ha4
     refine ⟨.pointer (some ⟨(ι β).b,off * sz + k * sz,none⟩), ?_,.eptr β ver (off + k) 0 _ _ _ hb (fun _ _ _ e => by cases e; omega) fun _ _ _ e _ _ => ?_⟩
     ·unfold Instr.indexAt asIntOf
      simp [qi hu,hkn,hte'.size,add_plain,hsz]
     ·cases e
      exact ⟨rfl,by rw [Nat.add_mul]; rfl⟩
   ·rename_i ds es foc hb
    split at hr <;> cases hr
    rename_i hc
    obtain ⟨hver,hsz,hkn⟩ := hc
    cases hx with
    | row _ _ _ _ _ b ho hb' hk' hver' h =>
     rw [hb] at hb'
     cases hb'
     obtain ⟨h1,h2⟩ := h _ _ _ rfl hver
     simp only [Bool.false_eq_true,if_false] at h2
     obtain ⟨a,rfl,ha1,ha2,ha3⟩ := h2
     obtain ⟨vs,elem,fz,g1,g2,g3,g4,_⟩ := hi.qh hb
     have ha4 := ha3 (by omega)
     obtain ⟨ab,ao,asp⟩ := a
     simp only at ha1 ha2 ha4
     subst ha1 ha2 ha4
     refine ⟨.pointer (some ⟨(ι β).b,off * 1 + k * 1,none⟩), ?_,.eptr β ver (off + k) 0 _ _ _ hb (fun _ _ _ e => by cases e; omega) fun _ _ _ e _ _ => ?_⟩
     ·unfold Instr.indexAt asIntOf
      simp [qi hu,hkn,hte'.size,add_plain,hsz]
     ·cases e
      exact ⟨rfl,by rw [Nat.add_mul]; rfl⟩
   ·cases hr
  ·cases hr
 ·rename_i len e htd
  have hu := ht.array htd
  split at hr
  ·cases hr
  rename_i te hte
  have hte' := hG _ _ hte
  split at hr
  rotate_left
  ·cases hr
  rename_i hkl
  split at hr
  ·rename_i β o
   cases hr
   cases hx with
   | ptr _ _ c hb hk =>
    refine ⟨.pointer (some ⟨(ι β).b,o + k * te.size,none⟩), ?_,.ptr β _ c hb hk⟩
    unfold Instr.indexAt asIntOf Instr.sureAddr
    simp [qi hu,hkl,hte'.size,add_plain]
  ·rename_i β ver j o
   cases hr
   cases hx with
   | eptr _ _ _ _ b' o' b hb hver h =>
    refine ⟨.pointer (some ⟨b',o' + k * te.size,none⟩), ?_,.eptr β ver j _ b' _ b hb hver fun isnil sz es e hv hn => ?_⟩
    ·unfold Instr.indexAt asIntOf Instr.sureAddr
     simp [qi hu,hkl,hte'.size,add_plain]
    ·obtain ⟨g1,g2⟩ := h isnil sz es e hv hn
     exact ⟨g1,by omega⟩
  ·rename_i c o
   cases hr
   cases hx with
   | rptr _ _ b off vs him hc hf h =>
    refine ⟨.pointer (some ⟨b,off + o + k * te.size,none⟩), ?_, ?_⟩
    ·unfold Instr.indexAt asIntOf Instr.sureAddr
     simp [qi hu,hkl,hte'.size,add_plain]
    ·rw [Nat.add_assoc]
     exact .rptr c _ b off vs him hc hf h
  ·cases hr
 ·cases hr
theorem qbl {t : TypeId} {ti : TI} (ht : qb P t ti) {x : AV} {v : Value} (hx : RA w H ι Im x v) {off : Nat} {r : AV}
  (hr : q3t ti x off = some r) : ∃ cs u,v = .agg cs ∧ (part t cs off).run P w = .ok u w ∧ RA w H ι Im r u := by
 have key : ∀ (c : List AV) (vs : List Value),c.length = vs.length → (∀ x ∈ c,x.flat = true) →
   (∀ (i : Nat) x v,c[i]? = some x → vs[i]? = some v → RA w H ι Im x v) → ldA ti (c.drop off) = some r → ∃ u,(part t ⟨vs⟩ off).run P w = .ok u w ∧ RA w H ι Im r u := by
  intro c vs hl hf h hr
  unfold ldA at hr
  unfold part
  simp only [Sem.run_bind,ht.isAgg,Result.andThen_ok]
  by_cases ha : ti.isAgg = true
  ·simp only [ha,if_true] at hr ⊢
   split at hr <;> cases hr
   rename_i hlen
   refine ⟨.agg ⟨(vs.drop off).take ti.size⟩,by simp [ht.size],q46 (by simp; omega) (fun x hx => hf x (List.mem_of_mem_drop (List.mem_of_mem_take hx))) ?_⟩
   intro i x v h1 h2
   by_cases hi : i < ti.size
   ·rw [List.getElem?_take_of_lt hi,List.getElem?_drop] at h1 h2
    exact h _ x v h1 h2
   ·have := (List.getElem?_eq_some_iff.1 h1).1
    simp at this
    omega
  ·simp only [ha,Bool.false_eq_true,if_false] at hr ⊢
   split at hr <;> cases hr
   rename_i x r' hd
   have hx : c[off]? = some r := by
    have := congrArg (fun l => l[0]?) hd
    simpa using this
   have hlt : off < vs.length := by rw [← hl]; exact (List.getElem?_eq_some_iff.1 hx).1
   refine ⟨vs[off], ?_,h off r _ hx (by simp [hlt])⟩
   have : (⟨vs⟩ : Array Value)[off]? = some vs[off] := by simp [hlt]
   simp [this]
 unfold q3t at hr
 split at hr
 ·rename_i c
  cases hx with
  | pv _ _ h => cases h with
   | agg _ vs hl hf h =>
    have hr' : ldA ti ((c.map AV.pv).drop off) = some r := by
     rw [← List.map_drop]
     unfold ldP at hr
     unfold ldA
     by_cases ha : ti.isAgg = true
     ·simp only [ha,if_true,List.length_map] at hr ⊢
      split at hr <;> cases hr
      rename_i hlen
      rw [if_pos hlen,← List.map_take]
      congr 1
      unfold q17
      have : ∀ l : List PV,um (l.map AV.pv) = some l := by
       intro l
       induction l with
       | nil => rfl
       | cons x r ih => simp [um,ih]
      rw [this]
     ·simp only [ha,Bool.false_eq_true,if_false] at hr ⊢
      split at hr <;> cases hr
      rename_i x r' hd
      simp [hd]
    obtain ⟨u,g1,g2⟩ := key (c.map .pv) vs (by simpa using hl) (fun y hy => by
     simp only [List.mem_map] at hy
     obtain ⟨p,hp,rfl⟩ := hy
     exact hf p hp) (fun i y u hy hu => by
     simp only [List.getElem?_map,Option.map_eq_some_iff] at hy
     obtain ⟨p,hp,rfl⟩ := hy
     exact .pv _ _ (h i p u hp hu)) hr'
    exact ⟨_,u,rfl,g1,g2⟩
 ·rename_i c
  cases hx with
  | agg _ vs hl hf h =>
   obtain ⟨u,g1,g2⟩ := key c vs hl hf h hr
   exact ⟨_,u,rfl,g1,g2⟩
 ·cases hr
end
end Go.Gm
set_option linter.unusedSectionVars false
namespace Go.Gm
open Go
section
variable [Globs] {P : Program} {w : World} {H : Heap} {ι : Plc} {Im : Nat → Prop}
def Bd (X : Nat → Prop) (H : Heap) (nx : Nat) : Prop := ∀ β b,H.get β = some b → β < nx ∨ X β
def Did (X : Nat → Prop) (w : World) (H : Heap) (ι : Plc) (Im : Nat → Prop) (nx : Nat) (e : Eff) (u : Value) (w' : World) : Prop :=
 ∃ ι',qa w' (qf e.2.1 H) ι' Im ∧ Evo w H ι Im w' (qf e.2.1 H) ι' Im ∧ RA w' (qf e.2.1 H) ι' Im e.1 u ∧ nx ≤ e.2.2 ∧
  Bd X (qf e.2.1 H) e.2.2
theorem Did.pure (hi : qa w H ι Im) {nx : Nat} {X : Nat → Prop} (hnx : Bd X H nx) {r : AV} {u : Value} (h : RA w H ι Im r u) :
  Did X w H ι Im nx (r,[],nx) u w := ⟨ι,hi,Evo.refl _ _ _ _,h,Nat.le_refl _,hnx⟩
theorem q7j {nx : Nat} {X : Nat → Prop} (hnx : Bd X H nx) (hX : ¬ X nx) : H.get nx = none := by
 cases h : H.get nx with
 | none => rfl
 | some b =>
  rcases hnx nx b h with h | h
  ·omega
  ·exact absurd h hX
theorem zu {nx : Nat} {X : Nat → Prop} (hnx : Bd X H nx) {γ : Nat} {y : Blk} {n : Nat} (hn : nx ≤ n) (hγ : γ < n ∨ X γ) : Bd X (qf [(γ,y)] H) n := by
 intro β b h
 simp only [qf,Heap.get_put] at h
 split at h
 ·rename_i e; subst e; exact hγ
 ·rcases hnx β b h with h | h
  ·exact .inl (by omega)
  ·exact .inr h
theorem bf {X : Nat → Prop} {nx : Nat} (h : ∀ γ,X γ → nx + 1 ≤ γ) : ¬ X nx := fun hx => by have := h _ hx; omega
theorem qa.new (hi : qa w H ι Im) {nx : Nat} {X : Nat → Prop} (hnx : Bd X H nx) (hX : ¬ X nx) (w' : World) (y : Blk) (o : Obj) (cap : Nat)
  (hw : w'.heap = w.heap.push o) (hio : w'.os = w.os ∧ w'.output = w.output)
  (hblk : ∀ ι',ι' nx = ⟨w.heap.size,cap,[]⟩ → Evo w H ι Im w' (H.put nx y) ι' Im → j6 w' (H.put nx y) ι' Im nx y) (hyO : y.isO = false := by rfl) :
  ∃ ι',ι' nx = ⟨w.heap.size,cap,[]⟩ ∧ qa w' (H.put nx y) ι' Im ∧ Evo w H ι Im w' (H.put nx y) ι' Im := by
 have hf := q7j hnx hX
 obtain ⟨h1,h2⟩ := qa.put (hno := q2r hf) (hy := hyO) hi (w' := w') nx y ⟨w.heap.size,cap,[]⟩ (fun x hx => by rw [hf] at hx; cases hx) ⟨by rw [hw]; simp,hio⟩
  (fun b hb _ => by rw [hw]; simp [Array.getElem?_push,Nat.ne_of_lt hb]) (fun _ => .inl (Nat.le_refl _))
  (hblk _ (by simp))
 exact ⟨_,by simp,h1,h2⟩
theorem jo (n : Nat) : xw (0,0) n := ⟨Nat.le_refl _,fun i _ h => by simp at h⟩
theorem qcq (hi : qa w H ι Im) {nx : Nat} {X : Nat → Prop} (hnx : Bd X H nx) (hX : ¬ X nx) (c : List AV) (vs : List Value) (elem : TypeId)
  (hl : c.length = vs.length) (hf : ∀ x ∈ c,x.flat = true) (h : ∀ (i : Nat) x v,c[i]? = some x → vs[i]? = some v → RA w H ι Im x v) :
  Did X w H ι Im nx (.ptr nx 0,[(nx,.box c)],nx + 1) (.pointer (some ⟨w.heap.size,0,none⟩)) { w with heap := w.heap.push (.cells ⟨vs⟩ elem) } := by
 obtain ⟨ι',h0,h1,h2⟩ := qa.new hi hnx hX { w with heap := w.heap.push (.cells ⟨vs⟩ elem) } (.box c) (.cells ⟨vs⟩ elem) 0 rfl ⟨rfl,rfl⟩ (fun ι' hp he => by
  refine ⟨⟨vs⟩,elem,(0,0),by simp [hp],jo _,by simpa using hl,hf,fun i x v hx hv => ?_⟩
  exact (h i x v hx (by simpa using hv)).mono hi he)
 refine ⟨ι',h1,h2, ?_,by simp,zu hnx (by simp) (.inl (by simp))⟩
 have hg : (qf [(nx,Blk.box c)] H).get nx = some (.box c) := by simp [qf,Heap.get_put]
 have := RA.ptr (w := { w with heap := w.heap.push (.cells ⟨vs⟩ elem) }) (ι := ι') (Im := Im) nx 0 _ hg rfl
 rw [h0] at this
 exact this
theorem z1c (hi : qa w H ι Im) {nx : Nat} {X : Nat → Prop} (hnx : Bd X H nx) (hX : ¬ X nx) (c : List AV) (vs : List Value) (elem : TypeId)
  (hl : c.length = vs.length) (hf : ∀ x ∈ c,x.flat = true) (h : ∀ (i : Nat) x v,c[i]? = some x → vs[i]? = some v → RA w H ι Im x v) :
  Did X w H ι Im nx (.ptr nx 0,[(nx,.z8 elem c)],nx + 1) (.pointer (some ⟨w.heap.size,0,none⟩)) { w with heap := w.heap.push (.cells ⟨vs⟩ elem) } := by
 obtain ⟨ι',h0,h1,h2⟩ := qa.new hi hnx hX { w with heap := w.heap.push (.cells ⟨vs⟩ elem) } (.z8 elem c) (.cells ⟨vs⟩ elem) 0 rfl ⟨rfl,rfl⟩ (fun ι' hp he => by
  refine ⟨⟨vs⟩,(0,0),by simp [hp],jo _,by simpa using hl,hf,fun i x v hx hv => ?_⟩
  exact (h i x v hx (by simpa using hv)).mono hi he)
 refine ⟨ι',h1,h2, ?_,by simp,zu hnx (by simp) (.inl (by simp))⟩
 have hg : (qf [(nx,Blk.z8 elem c)] H).get nx = some (.z8 elem c) := by simp [qf,Heap.get_put]
 have := RA.ptr (w := { w with heap := w.heap.push (.cells ⟨vs⟩ elem) }) (ι := ι') (Im := Im) nx 0 _ hg rfl
 rw [h0] at this
 exact this
theorem q5y (t : TypeId) (v : Value) : (newVar t v).run P w = .ok ⟨w.heap.size,0,none⟩ { w with heap := w.heap.push (.cells v.cells t) } := by
 simp [newVar,newRow]
theorem q27 {t : TypeId} {ti : TI} (ht : qb P t ti) : ∃ z,(zeroValue t).run P w = .ok z w ∧ ti.zero.length = z.cells.size ∧
  (∀ (i : Nat) p v,ti.zero[i]? = some p → z.cells.toList[i]? = some v → RP w Im p v) ∧ q1v z = ti.td.isAgg := by
 obtain ⟨i,z,h1,h2,h3,h4,h5,h6⟩ := ht.info
 obtain ⟨g1,g2,g3⟩ := q55 (w := w) (Im := Im) h5
 refine ⟨z,by simp [zeroValue,q1w h1,h4],by simpa using g1,g3,h6⟩
theorem qgh {t : TypeId} {ti : TI} (ht : qb P t ti) (hi : qa w H ι Im) {nx : Nat} {X : Nat → Prop} (hnx : Bd X H nx) (hX : ¬ X nx) :
  ∃ u w',(Instr.alloc t true (.tuple #[])).run P w = .ok u w' ∧ Did X w H ι Im nx (.ptr nx 0,[(nx,.box (ti.zero.map .pv))],nx + 1) u w' := by
 obtain ⟨z,h1,h2,h3,_⟩ := q27 (w := w) (Im := Im) ht
 refine ⟨_,_, ?_,qcq hi hnx hX (ti.zero.map .pv) z.cells.toList t (by simpa using h2) (fun x hx => ?_) (fun i x v hx hv => ?_)⟩
 ·unfold Instr.alloc
  simp [h1,q5y]
 ·simp only [List.mem_map] at hx
  obtain ⟨p,hp,rfl⟩ := hx
  exact ht.flat p hp
 ·simp only [List.getElem?_map,Option.map_eq_some_iff] at hx
  obtain ⟨p,hp,rfl⟩ := hx
  exact .pv _ _ (h3 i p v hp hv)
theorem qqh {G : GP} {t : TypeId} {ti : TI} (ht : qb P t ti) (hi : qa w H ι Im) {nx : Nat} {X : Nat → Prop} (hnx : Bd X H nx) {e : Eff} (hr : q41 G t ti nx = some e) (hX : ∀ γ,X γ → e.2.2 ≤ γ) :
  ∃ u w',(Instr.alloc t true (.tuple #[])).run P w = .ok u w' ∧ Did X w H ι Im nx e u w' := by
 obtain ⟨z,h1,h2,h3,_⟩ := q27 (w := w) (Im := Im) ht
 unfold q41 at hr
 split at hr
 rotate_left
 ·cases hr
 rename_i q1 tf q2 _ _ hz
 split at hr
 rotate_left
 ·cases hr
 rename_i tif htf
 split at hr <;> cases hr
 rename_i el htd
 rw [hz] at h2 h3
 obtain ⟨v0,v1,hzc⟩ : ∃ v0 v1,z.cells.toList = [v0,v1] := by
  have : z.cells.toList.length = 2 := by simpa using h2.symm
  match hl : z.cells.toList,this with
  | [v0,v1],_ => exact ⟨v0,v1,rfl⟩
 have r0 := h3 0 _ v0 rfl (by rw [hzc]; rfl)
 have r1 := h3 1 _ v1 rfl (by rw [hzc]; rfl)
 cases r0
 cases r1
 have hX' : ¬ X nx := fun hx => by have := hX _ hx; simp at this; omega
 have hX1 : ¬ X (nx + 1) := fun hx => by have h := hX _ hx; simp only [] at h; omega
 have hn := q7j hnx hX'
 obtain ⟨hI,hE⟩ := qa.put (hno := q2r hn) hi (w' := w) nx (.za el true 0 []) ⟨0,0,[]⟩ (fun x hx => by rw [hn] at hx; cases hx) ⟨Nat.le_refl _,rfl,rfl⟩ (fun b h _ => rfl) (fun h => by cases h) (fun _ => rfl)
 have hg : (H.put nx (.za el true 0 [])).get nx = some (.za el true 0 []) := by simp [Heap.get_put]
 have hnx1 : Bd X (H.put nx (.za el true 0 [])) (nx + 1) := zu (y := .za el true 0 []) hnx (Nat.le_succ _) (.inl (Nat.lt_succ_self _))
 have hrow : RA w (H.put nx (.za el true 0 [])) (qg ι nx ⟨0,0,[]⟩) Im (.row nx 0 0 0) (.slice none 0 0) :=
  .row nx 0 0 0 _ _ rfl hg (fun _ => ⟨_,_,_,rfl⟩) (fun _ _ _ e => by cases e; exact Nat.le_refl _) (fun _ _ _ e _ => by cases e; exact ⟨Nat.le_refl _,rfl⟩)
 obtain ⟨ι',k1,k2,k3,k4,k5⟩ := z1c hI hnx1 hX1 [.pv .nilptr,.row nx 0 0 0] [.pointer none,.slice none 0 0] t rfl (by simp [AV.flat,PV.flat]) (fun i x v hx hv => by
  match i with
  | 0 => simp at hx hv; subst hx hv; exact .pv _ _ .nilptr
  | 1 => simp at hx hv; subst hx hv; exact hrow
  | i + 2 => simp at hx)
 refine ⟨_,_, ?_,ι',k1,hE.trans k2,k3,by simp,k5⟩
 unfold Instr.alloc
 have : z.cells = ⟨[.pointer none,.slice none 0 0]⟩ := by apply Array.ext'; simpa using hzc
 simp [h1,q5y,this]
theorem z0v {t : TypeId} (hi : qa w H ι Im) {nx : Nat} {X : Nat → Prop} (hnx : Bd X H nx) (hX : ¬ X nx) {x : AV} {v : Value} (hx : RA w H ι Im x v) (hs : x.q0s = true) :
  ∃ u w',(Instr.box t v).run P w = .ok u w' ∧ Did X w H ι Im nx (.ptr nx 0,[(nx,.box x.cells)],nx + 1) u w' := by
 obtain ⟨c1,c2,c3,c4⟩ := AV.cells_ok hx hs
 refine ⟨_,_, ?_,qcq hi hnx hX x.cells v.cells.toList t (by simpa using c1) c2 c4⟩
 unfold Instr.box
 simp [q5y]
theorem qik {t : TypeId} (hi : qa w H ι Im) {x : AV} {v : Value} (hx : RA w H ι Im x v) (hs : x.q0s = true) {l : List PV} (hl : um x.cells = some l) :
    ∃ u w' Im',(Instr.box t v).run P w = .ok u w' ∧ qa w' H ι Im' ∧ Evo w H ι Im w' H ι Im' ∧ RA w' H ι Im' (.pv (.rp l)) u := by
  obtain ⟨c1,c2,c3,c4⟩ := AV.cells_ok hx hs
  have hcl := q5s hl
  have hold : ∀ b,b < w.heap.size → (w.heap.push (.cells v.cells t))[b]? = w.heap[b]? := fun b hb => by simp [Array.getElem?_push,Nat.ne_of_lt hb]
  have he : Evo w H ι Im { w with heap := w.heap.push (.cells v.cells t) } H ι (fun b => Im b ∨ b = w.heap.size) :=
    { comp := fun β b h => ⟨b,h,gz b _⟩
      im := fun _ h => .inl h
      imnew := fun b h => by
        rcases h with h | h
        · exact .inl h
        · exact .inr (.inl (by omega))
      plnew := fun β x z h hu => .inr ⟨β,x,h,hu⟩
      same := fun b hb _ => hold b hb
      size := by simp
      io := ⟨rfl,rfl⟩ }
  refine ⟨.pointer (some ⟨w.heap.size,0,none⟩), { w with heap := w.heap.push (.cells v.cells t) },fun b => Im b ∨ b = w.heap.size, ?_, ?_,he, ?_⟩
  · unfold Instr.box
    simp [q5y]
  · exact {
      blk := fun β b hb => (hi.blk β b hb).mono hi he (fun hu => ⟨rfl,fun x hx => hold _ ((hi.blk β b hb).mf hx)⟩)
      inj := hi.inj
      im := fun b h => by
        rcases h with h | h
        · have := hi.im b h; simp; omega
        · simp; omega
      nim := fun β b z hb hu h => by
        rcases h with h | h
        · exact hi.nim β b z hb hu h
        · have := (hi.blk β b hb).mf hu; omega
      glb := Globs.go hi.glb hi.gim fun b hb => hold b (hi.im b hb)
      gim := fun b hb => .inl (hi.gim b hb) }
  · refine .pv _ _ (.rp l w.heap.size 0 (fun i => (v.cells[i]?).getD undef) (.inr rfl) (fun i hlt => ?_) (fun p hp => ?_) (fun i p hp => ?_))
    · have hlt' : i < v.cells.size := by rw [← c1,hcl]; simpa using hlt
      simp [World.cell?,hlt']
    · have := c2 (.pv p) (by rw [hcl]; exact List.mem_map.2 ⟨p,hp,rfl⟩)
      exact this
    · have h1 : x.cells[i]? = some (.pv p) := by rw [hcl]; simp [hp]
      have hlt' : i < v.cells.size := by rw [← c1]; exact (List.getElem?_eq_some_iff.1 h1).1
      have h2 : v.cells.toList[i]? = some v.cells[i] := by simp [hlt']
      have h3 := (c4 i _ _ h1 h2).mono hi he
      simp only [hlt',Array.getElem?_eq_getElem,Option.getD_some]
      cases h3 with | pv _ _ h => exact h
theorem foldl_set (off : Nat) : ∀ (l : List Value) (j : Nat) (cs : Array Value),off + j + l.length ≤ cs.size →
  ((l.zipIdx j).foldl (fun cs (c,j) => cs.setIfInBounds (off + j) c) cs).size = cs.size ∧
  ∀ k,((l.zipIdx j).foldl (fun cs (c,j) => cs.setIfInBounds (off + j) c) cs)[k]? = if off + j ≤ k ∧ k < off + j + l.length then l[k - (off + j)]? else cs[k]?
 | [],j,cs,_ => ⟨rfl,fun k => by rw [if_neg (by simp)]; rfl⟩
 | x :: r,j,cs,h => by
  simp only [List.length_cons] at h
  obtain ⟨h1,h2⟩ := foldl_set off r (j + 1) (cs.setIfInBounds (off + j) x) (by simp; omega)
  simp only [List.zipIdx_cons,List.foldl_cons]
  refine ⟨by simpa using h1,fun k => ?_⟩
  rw [h2 k]
  simp only [List.length_cons,Array.getElem?_setIfInBounds]
  by_cases hk : off + (j + 1) ≤ k ∧ k < off + (j + 1) + r.length
  ·rw [if_pos hk,if_pos (by omega)]
   obtain ⟨m,rfl⟩ : ∃ m,k = off + j + (m + 1) := ⟨k - (off + j + 1),by omega⟩
   rw [show off + j + (m + 1) - (off + (j + 1)) = m from by omega,show off + j + (m + 1) - (off + j) = m + 1 from by omega]
   rfl
  ·rw [if_neg hk]
   by_cases hk2 : off + j = k
   ·subst hk2
    rw [if_pos rfl,if_pos (by omega),if_pos (by omega)]
    simp
   ·rw [if_neg hk2,if_neg (by omega)]
theorem q6c (off : Nat) (l : Array Value) (cs : Array Value) (h : off + l.size ≤ cs.size) :
  (l.zipIdx.foldl (fun cs (c,j) => cs.setIfInBounds (off + j) c) cs).size = cs.size ∧
  ∀ k,(l.zipIdx.foldl (fun cs (c,j) => cs.setIfInBounds (off + j) c) cs)[k]? = if off ≤ k ∧ k < off + l.size then l[k - off]? else cs[k]? := by
 have h1 := foldl_set off l.toList 0 cs (by simpa using h)
 rw [← Array.foldl_toList]
 simpa using h1
def Cells (w : World) (H : Heap) (ι : Plc) (Im : Nat → Prop) (c : List AV) (cs : Array Value) : Prop :=
 c.length = cs.size ∧ (∀ x ∈ c,x.flat = true) ∧ ∀ (i : Nat) x v,c[i]? = some x → cs[i]? = some v → RA w H ι Im x v
theorem q76 {a : Act} {E : Env} (hE : ∀ t,RA w H ι Im (E.get t) (a.tmps.getD t undef)) (place place' : Nat → Option (Nat × Nat))
  (hpl : ∀ i x,place i = some x → place' i = some x) : ∀ (parts : List (Nat × Operand)) (c : List AV) (cs : Array Value),Cells w H ι Im c cs →
  ∀ {r : List AV},uo place (ev E) parts c = some r → ∃ rs,Instr.fill place' cs (parts.map fun (i,x) => (i,a.eval x)) = some rs ∧ Cells w H ι Im r rs
 | [],c,cs,hc,r,h => by
  simp only [uo,Option.some.injEq] at h
  subst h
  exact ⟨cs,rfl,hc⟩
 | (i,x) :: rest,c,cs,hc,r,h => by
  simp only [uo] at h
  split at h
  rotate_left
  ·cases h
  rename_i off size hp
  split at h
  rotate_left
  ·cases h
  rename_i hcond
  obtain ⟨hs,hl,ho⟩ := hcond
  have hx := mh hE x
  obtain ⟨c1,c2,c3,c4⟩ := AV.cells_ok hx hs
  obtain ⟨d1,d2,d3⟩ := hc
  have hvs : (a.eval x).cells.size = size := by omega
  obtain ⟨f1,f2⟩ := q6c off (a.eval x).cells cs (by omega)
  have hc' : Cells w H ι Im (c.take off ++ (ev E x).cells ++ c.drop (off + size)) ((a.eval x).cells.zipIdx.foldl (fun cs (c,j) => cs.setIfInBounds (off + j) c) cs) := by
   refine ⟨by rw [f1]; simp; omega,fun y hy => ?_,fun k y v hy hv => ?_⟩
   ·simp only [List.mem_append] at hy
    rcases hy with (hy | hy) | hy
    ·exact d2 y (List.mem_of_mem_take hy)
    ·exact c2 y hy
    ·exact d2 y (List.mem_of_mem_drop hy)
   ·rw [← hl,q0d c (ev E x).cells off k (by omega)] at hy
    rw [f2 k,hvs,← hl] at hv
    split at hy
    ·rename_i hk
     rw [if_pos hk] at hv
     exact c4 _ y v hy (by simpa using hv)
    ·rename_i hk
     rw [if_neg hk] at hv
     exact d3 k y v hy hv
  obtain ⟨rs,g1,g2⟩ := q76 hE place place' hpl rest _ _ hc' h
  refine ⟨rs, ?_,g2⟩
  simp only [List.map_cons,Instr.fill,hpl _ _ hp]
  have hno : ¬ (decide ((a.eval x).cells.size ≠ size) || decide (off + (a.eval x).cells.size > cs.size)) = true := by
   simp only [Bool.or_eq_true,decide_eq_true_eq]
   omega
  rw [if_neg hno]
  exact g1
theorem qnc (fields : Array Field) (sz : Field → Nat) (h : ∀ f ∈ fields.toList,(sizeOf f.type).run P w = .ok (sz f) w) :
  (fields.mapM fun f => do pure (f.offset,← sizeOf f.type) : Sem _).run P w = .ok (fields.map fun f => (f.offset,sz f)) w := by
 rw [Array.mapM_eq_mapM_toList]
 have key : ∀ (l : List Field),(∀ f ∈ l,(sizeOf f.type).run P w = .ok (sz f) w) →
   (l.mapM fun f => do pure (f.offset,← sizeOf f.type) : Sem _).run P w = .ok (l.map fun f => (f.offset,sz f)) w := by
  intro l
  induction l with
  | nil => intro _; simp
  | cons f r ih =>
   intro h
   have h1 := h f (by simp)
   have h2 := ih fun g hg => h g (by simp [hg])
   simp only [List.mapM_cons,Sem.run_bind,h1,Result.andThen_ok,Sem.run_pure,h2,List.map_cons]
 simp only [Sem.run_map,key fields.toList h,Result.andThen_ok]
 congr 1
 apply Array.ext'
 simp
theorem qvq {t : TypeId} {i : TypeInfo} (h : P.info? t = some i) : (sizeOf t).run P w = .ok (P.cellsOf t) w := by
 simp [sizeOf,q1w h,Program.cellsOf,h]
theorem zln {G : TypeId → Option TI} (hG : ∀ t ti,G t = some ti → qb P t ti) {t : TypeId} {ti : TI} (ht : qb P t ti)
  {a : Act} {E : Env} (hE : ∀ t,RA w H ι Im (E.get t) (a.tmps.getD t undef)) (parts : Array (Nat × Operand)) {r : AV} (hr : q3f ti G (ev E) parts.toList = some r) :
  ∃ u,(Instr.build t (parts.map fun (i,x) => (i,a.eval x))).run P w = .ok u w ∧ RA w H ι Im r u := by
 obtain ⟨z,h1,h2,h3,h4⟩ := q27 (w := w) (Im := Im) ht
 have hz : Cells w H ι Im (ti.zero.map .pv) z.cells := by
  refine ⟨by simpa using h2,fun x hx => ?_,fun i x v hx hv => ?_⟩
  ·simp only [List.mem_map] at hx
   obtain ⟨p,hp,rfl⟩ := hx
   exact ht.flat p hp
  ·simp only [List.getElem?_map,Option.map_eq_some_iff] at hx
   obtain ⟨p,hp,rfl⟩ := hx
   exact .pv _ _ (h3 i p v hp (by simpa using hv))
 have hparts : (parts.map fun (i,x) => (i,a.eval x)).toList = parts.toList.map fun (i,x) => (i,a.eval x) := by simp
 unfold q3f at hr
 unfold Instr.build
 simp only [Sem.run_bind,h1,Result.andThen_ok]
 split at hr
 ·rename_i fs htd
  obtain ⟨fields,hu,rfl⟩ := ht.struct htd
  have hkn : ∀ f ∈ fields.toList,(sizeOf f.type).run P w = .ok (P.cellsOf f.type) w := by
   intro f hf
   have hk := ht.known
   unfold q64 at hk
   rw [hu] at hk
   have := List.all_eq_true.1 hk f hf
   obtain ⟨i,hi⟩ := Option.isSome_iff_exists.1 this
   exact qvq hi
  split at hr <;> cases hr
  rename_i c hc
  obtain ⟨rs,g1,g2⟩ := q76 hE _ ((fields.map fun f => (f.offset,P.cellsOf f.type))[·]?) (fun i x hx => by
   unfold q6s at hx
   simp only [List.getElem?_map] at hx
   cases hf : fields.toList[i]? with
   | none => simp [hf] at hx
   | some f =>
    simp only [hf,Option.map_some,Option.some.injEq] at hx
    have : fields[i]? = some f := by rw [← hf]; simp
    simp [this,← hx]) parts.toList _ _ hz hc
  simp only [qi hu,Result.andThen_ok,Sem.run_bind,qnc fields _ hkn,hparts,g1]
  exact ⟨.agg rs,by simp,q46 (by simpa using g2.1) g2.2.1 fun i x v hx hv => g2.2.2 i x v hx (by simpa using hv)⟩
 ·rename_i len e htd
  have hu := ht.array htd
  split at hr
  rotate_left
  ·cases hr
  rename_i te hte
  split at hr <;> cases hr
  rename_i c hc
  obtain ⟨rs,g1,g2⟩ := q76 hE _ (fun i => some (i * te.size,te.size)) (fun i x hx => hx) parts.toList _ _ hz hc
  simp only [qi hu,Result.andThen_ok,Sem.run_bind,(hG _ _ hte).size,hparts,g1]
  exact ⟨.agg rs,by simp,q46 (by simpa using g2.1) g2.2.1 fun i x v hx hv => g2.2.2 i x v hx (by simpa using hv)⟩
 ·cases hr
end
end Go.Gm
set_option linter.unusedSectionVars false
namespace Go.Gm
open Go
section
variable [Globs] {P : Program} {w : World} {H : Heap} {ι : Plc} {Im : Nat → Prop}
def zk (w : World) (Im : Nat → Prop) (sz : Nat) (es : List (List PV)) (cs : Nat → Option Value) : Prop :=
 (∀ e ∈ es,e.length = sz) ∧ (∀ (i : Nat) e (j : Nat) p,es[i]? = some e → e[j]? = some p → p.flat = true) ∧
 ∀ (i : Nat) e (j : Nat) p,es[i]? = some e → e[j]? = some p → ∃ v,cs (i * sz + j) = some v ∧ RP w Im p v
theorem zk.mono {w' : World} {Im' : Nat → Prop} (hi : ∀ b,Im b → Im' b) (hw : ∀ b,Im b → w'.heap[b]? = w.heap[b]?) {sz : Nat} {es : List (List PV)}
  {cs : Nat → Option Value} (h : zk w Im sz es cs) : zk w' Im' sz es cs :=
 ⟨h.1,h.2.1,fun i e j p a b => let ⟨v,g1,g2⟩ := h.2.2 i e j p a b; ⟨v,g1,g2.mono hi hw⟩⟩
theorem q5q (hi : qa w H ι Im) {nx : Nat} {X : Nat → Prop} (hnx : Bd X H nx) (hX : ¬ X nx) (sz : Nat) (es : List (List PV)) (cs : Array Value) (elem : TypeId)
  (fz : Nat × Nat) (cap : Nat) (w' : World) (hw : w'.heap = w.heap.push (.cells cs elem fz)) (hio : w'.os = w.os ∧ w'.output = w.output) (hfz : xw fz cs.size) (hsz : 0 < sz) (hc : cs.size = cap * sz)
  (hcap : es.length ≤ cap) (h : zk w Im sz es (cs[·]?)) :
  Did X w H ι Im nx (.row nx es.length 0 es.length,[(nx,.row false sz es)],nx + 1) (.slice (some ⟨w.heap.size,0,none⟩) es.length cap) w' := by
 obtain ⟨ι',h0,h1,h2⟩ := qa.new hi hnx hX w' (.row false sz es) (.cells cs elem fz) cap hw hio (fun ι' hp he => by
  have hk : ∀ b,Im b → w'.heap[b]? = w.heap[b]? := fun b hb => he.kept hi b hb
  obtain ⟨k1,k2,k3⟩ := h.mono he.im hk
  exact ⟨cs,elem,fz,by simp [hp,hw],hfz,by simp [hp,hc],hsz,by simp [hp,hcap],k1,k2,k3⟩)
 refine ⟨ι',h1,h2, ?_,by simp,zu hnx (by simp) (.inl (by simp))⟩
 have hg : (qf [(nx,Blk.row false sz es)] H).get nx = some (.row false sz es) := by simp [qf,Heap.get_put]
 refine .row nx _ 0 _ _ _ rfl hg (fun _ => ⟨_,_,_,rfl⟩) (fun _ _ _ e => by cases e; exact Nat.le_refl _) fun _ _ _ e _ => ?_
 cases e
 refine ⟨by simp, ?_⟩
 simp only [Bool.false_eq_true,if_false]
 exact ⟨⟨w.heap.size,0,none⟩,by simp [h0],rfl,by simp [h0],fun _ => by simp⟩
def ja (w : World) (H : Heap) (ι : Plc) (Im : Nat → Prop) (sz : Nat) (es : List (List AV)) (cs : Nat → Option Value) : Prop :=
 (∀ e ∈ es,e.length = sz) ∧ (∀ (i : Nat) e (j : Nat) x,es[i]? = some e → e[j]? = some x → x.flat = true) ∧
 ∀ (i : Nat) e (j : Nat) x,es[i]? = some e → e[j]? = some x → ∃ v,cs (i * sz + j) = some v ∧ RA w H ι Im x v
theorem ja.mono {w' : World} {H' : Heap} {ι' : Plc} {Im' : Nat → Prop} (hi : qa w H ι Im) (he : Evo w H ι Im w' H' ι' Im') {sz : Nat} {es : List (List AV)}
  {cs : Nat → Option Value} (h : ja w H ι Im sz es cs) : ja w' H' ι' Im' sz es cs :=
 ⟨h.1,h.2.1,fun i e j p a b => let ⟨v,g1,g2⟩ := h.2.2 i e j p a b; ⟨v,g1,g2.mono hi he⟩⟩
theorem q9o (hi : qa w H ι Im) {nx : Nat} {X : Nat → Prop} (hnx : Bd X H nx) (hX : ¬ X nx) (sz : Nat) (es : List (List AV)) (cs : Array Value) (elem : TypeId)
  (fz : Nat × Nat) (cap : Nat) (w' : World) (hw : w'.heap = w.heap.push (.cells cs elem fz)) (hio : w'.os = w.os ∧ w'.output = w.output) (hfz : xw fz cs.size) (hsz : 0 < sz) (hc : cs.size = cap * sz)
  (hcap : es.length ≤ cap) (h : ja w H ι Im sz es (cs[·]?)) :
  Did X w H ι Im nx (.row nx es.length 0 es.length,[(nx,.ql sz es)],nx + 1) (.slice (some ⟨w.heap.size,0,none⟩) es.length cap) w' := by
 obtain ⟨ι',h0,h1,h2⟩ := qa.new hi hnx hX w' (.ql sz es) (.cells cs elem fz) cap hw hio (fun ι' hp he => by
  obtain ⟨k1,k2,k3⟩ := h.mono hi he
  exact ⟨cs,elem,fz,by simp [hp,hw],hfz,by simp [hp,hc],hsz,by simp [hp,hcap],k1,k2,k3⟩)
 refine ⟨ι',h1,h2, ?_,by simp,zu hnx (by simp) (.inl (by simp))⟩
 have hg : (qf [(nx,Blk.ql sz es)] H).get nx = some (.ql sz es) := by simp [qf,Heap.get_put]
 refine .row nx _ 0 _ _ _ rfl hg (fun _ => ⟨_,_,_,rfl⟩) (fun _ _ _ e => by cases e; exact Nat.le_refl _) fun _ _ _ e _ => ?_
 cases e
 refine ⟨by simp, ?_⟩
 simp only [Bool.false_eq_true,if_false]
 exact ⟨⟨w.heap.size,0,none⟩,by simp [h0],rfl,by simp [h0],fun _ => by simp⟩
theorem q5e {x : AV} {v : Value} (hx : RA w H ι Im x v) {p : PV} (h : q2a x = some p) : RP w Im p v := by
 unfold q2a at h
 split at h <;> cases h
 ·cases hx
  assumption
 ·cases hx with
  | zsl a =>
   exact .sl 0 [] a.block a.off 0 (fun _ => undef) (fun h => absurd rfl h) (Nat.zero_le _) (by simp) (fun i hlt => by simp at hlt) (by simp) (by simp) a.spot (fun h => absurd rfl h)
theorem PV.cells_ok {p : PV} {v : Value} (h : RP w Im p v) : p.cells.length = v.cells.size ∧ (∀ q ∈ p.cells,q.flat = true) ∧
  ∀ (i : Nat) q u,p.cells[i]? = some q → v.cells[i]? = some u → RP w Im q u := by
 by_cases hp : p.flat = true
 ·have ho := h.zm hp
  have e1 : p.cells = [p] := by cases p <;> first | rfl | cases hp
  have e2 : v.cells = #[v] := by cases v <;> first | rfl | cases ho
  rw [e1,e2]
  refine ⟨rfl,by simpa using hp,fun i q u hq hu => ?_⟩
  cases i with
  | zero => simp at hq hu; subst hq hu; exact h
  | succ i => simp at hq
 ·cases h with
  | agg c vs hl hf h => exact ⟨by simpa [PV.cells,Value.cells] using hl,hf,fun i q u hq hu => h i q u hq (by simpa [Value.cells] using hu)⟩
  | _ => exact absurd rfl hp
theorem q8o {a : Act} {E : Env} (hE : ∀ t,RA w H ι Im (E.get t) (a.tmps.getD t undef)) (size : Nat) : ∀ (parts : List (Nat × Operand)) (es : List (List PV)) (cs : Array Value),
  cs.size = es.length * size → zk w Im size es (cs[·]?) →
  ∀ {r : List (List PV)},uu size (ev E) parts es = some r → ∃ rs,Instr.fill (fun i => some (i * size,size)) cs (parts.map fun (i,x) => (i,a.eval x)) = some rs ∧
   r.length = es.length ∧ rs.size = es.length * size ∧ zk w Im size r (rs[·]?)
 | [],es,cs,hs,hc,r,h => by
  simp only [uu,Option.some.injEq] at h
  subst h
  exact ⟨cs,rfl,rfl,hs,hc⟩
 | (i,x) :: rest,es,cs,hs,hc,r,h => by
  simp only [uu] at h
  split at h
  rotate_left
  ·cases h
  rename_i p hp
  split at h
  rotate_left
  ·cases h
  rename_i hcond
  obtain ⟨hpl,hil⟩ := hcond
  have hx := q5e (mh hE x) hp
  obtain ⟨c1,c2,c3⟩ := PV.cells_ok hx
  have hvs : (a.eval x).cells.size = size := by omega
  have hin : i * size + size ≤ cs.size := by
   rw [hs,← Nat.succ_mul]
   exact Nat.mul_le_mul_right _ hil
  obtain ⟨f1,f2⟩ := q6c (i * size) (a.eval x).cells cs (by omega)
  have hset : ∀ (i' : Nat) e',(es.set i p.cells)[i']? = some e' → (i' = i ∧ e' = p.cells) ∨ (i' ≠ i ∧ es[i']? = some e') := by
   intro i' e' h
   rw [List.getElem?_set] at h
   by_cases hii : i = i'
   ·subst hii
    simp [hil] at h
    exact .inl ⟨rfl,h.symm⟩
   ·simp [hii] at h
    exact .inr ⟨Ne.symm hii,h⟩
  obtain ⟨rs,g1,g2,g3,g4⟩ := q8o hE size rest (es.set i p.cells) _ (by rw [f1]; simpa using hs) (by
   refine ⟨fun e he => ?_,fun i' e' j q hi' hj => ?_,fun i' e' j q hi' hj => ?_⟩
   ·obtain ⟨i',hi'⟩ := List.getElem?_of_mem he
    rcases hset i' e hi' with ⟨_,rfl⟩ | ⟨_,h⟩
    ·exact hpl
    ·exact hc.1 e (List.mem_of_getElem? h)
   ·rcases hset i' e' hi' with ⟨_,rfl⟩ | ⟨_,h⟩
    ·exact c2 q (List.mem_of_getElem? hj)
    ·exact hc.2.1 i' e' j q h hj
   ·have hjl : j < size := by
     have h1 := (List.getElem?_eq_some_iff.1 hj).1
     rcases hset i' e' hi' with ⟨_,rfl⟩ | ⟨_,h⟩
     ·omega
     ·have := hc.1 e' (List.mem_of_getElem? h)
      omega
    show ∃ v,_ ∧ _
    simp only [f2]
    rcases hset i' e' hi' with ⟨rfl,rfl⟩ | ⟨hne,h⟩
    ·rw [if_pos (by omega),show i' * size + j - i' * size = j from by omega]
     obtain ⟨u,hu⟩ : ∃ u,(a.eval x).cells[j]? = some u := ⟨(a.eval x).cells[j]'(by omega),by simp⟩
     exact ⟨u,hu,c3 j q u hj hu⟩
    ·obtain ⟨u,hu,hr⟩ := hc.2.2 i' e' j q h hj
     have hout : ¬ (i * size ≤ i' * size + j ∧ i' * size + j < i * size + (a.eval x).cells.size) := by
      rcases Nat.lt_or_gt_of_ne hne with hlt | hgt
      ·have : (i' + 1) * size ≤ i * size := Nat.mul_le_mul_right _ hlt
       rw [Nat.succ_mul] at this
       omega
      ·have : (i + 1) * size ≤ i' * size := Nat.mul_le_mul_right _ hgt
       rw [Nat.succ_mul] at this
       omega
     rw [if_neg hout]
     exact ⟨u,hu,hr⟩) h
  refine ⟨rs, ?_,by simpa using g2,by simpa using g3,g4⟩
  have hno : ¬ (decide ((a.eval x).cells.size ≠ size) || decide (i * size + (a.eval x).cells.size > cs.size)) = true := by
   simp only [Bool.or_eq_true,decide_eq_true_eq]
   omega
  simp only [List.map_cons,Instr.fill]
  rw [if_neg hno]
  exact g1
theorem qcv {a : Act} {E : Env} (hE : ∀ t,RA w H ι Im (E.get t) (a.tmps.getD t undef)) (size : Nat) : ∀ (parts : List (Nat × Operand)) (es : List (List AV)) (cs : Array Value),
  cs.size = es.length * size → ja w H ι Im size es (cs[·]?) →
  ∀ {r : List (List AV)},q08 size (ev E) parts es = some r → ∃ rs,Instr.fill (fun i => some (i * size,size)) cs (parts.map fun (i,x) => (i,a.eval x)) = some rs ∧
   r.length = es.length ∧ rs.size = es.length * size ∧ ja w H ι Im size r (rs[·]?)
 | [],es,cs,hs,hc,r,h => by
  simp only [q08,Option.some.injEq] at h
  subst h
  exact ⟨cs,rfl,rfl,hs,hc⟩
 | (i,x) :: rest,es,cs,hs,hc,r,h => by
  simp only [q08] at h
  split at h
  rotate_left
  ·cases h
  rename_i hcond
  obtain ⟨hst,hpl,hil⟩ := hcond
  obtain ⟨c1,c2,_,c3⟩ := AV.cells_ok (mh hE x) hst
  have hvs : (a.eval x).cells.size = size := by omega
  have hin : i * size + size ≤ cs.size := by
   rw [hs,← Nat.succ_mul]
   exact Nat.mul_le_mul_right _ hil
  obtain ⟨f1,f2⟩ := q6c (i * size) (a.eval x).cells cs (by omega)
  have hset : ∀ (i' : Nat) e',(es.set i (ev E x).cells)[i']? = some e' → (i' = i ∧ e' = (ev E x).cells) ∨ (i' ≠ i ∧ es[i']? = some e') := by
   intro i' e' h
   rw [List.getElem?_set] at h
   by_cases hii : i = i'
   ·subst hii
    simp [hil] at h
    exact .inl ⟨rfl,h.symm⟩
   ·simp [hii] at h
    exact .inr ⟨Ne.symm hii,h⟩
  obtain ⟨rs,g1,g2,g3,g4⟩ := qcv hE size rest (es.set i (ev E x).cells) _ (by rw [f1]; simpa using hs) (by
   refine ⟨fun e he => ?_,fun i' e' j q hi' hj => ?_,fun i' e' j q hi' hj => ?_⟩
   ·obtain ⟨i',hi'⟩ := List.getElem?_of_mem he
    rcases hset i' e hi' with ⟨_,rfl⟩ | ⟨_,h⟩
    ·exact hpl
    ·exact hc.1 e (List.mem_of_getElem? h)
   ·rcases hset i' e' hi' with ⟨_,rfl⟩ | ⟨_,h⟩
    ·exact c2 q (List.mem_of_getElem? hj)
    ·exact hc.2.1 i' e' j q h hj
   ·have hjl : j < size := by
     have h1 := (List.getElem?_eq_some_iff.1 hj).1
     rcases hset i' e' hi' with ⟨_,rfl⟩ | ⟨_,h⟩
     ·omega
     ·have := hc.1 e' (List.mem_of_getElem? h)
      omega
    show ∃ v,_ ∧ _
    simp only [f2]
    rcases hset i' e' hi' with ⟨rfl,rfl⟩ | ⟨hne,h⟩
    ·rw [if_pos (by omega),show i' * size + j - i' * size = j from by omega]
     obtain ⟨u,hu⟩ : ∃ u,(a.eval x).cells[j]? = some u := ⟨(a.eval x).cells[j]'(by omega),by simp⟩
     exact ⟨u,hu,c3 j q u hj (by simpa using hu)⟩
    ·obtain ⟨u,hu,hr⟩ := hc.2.2 i' e' j q h hj
     have hout : ¬ (i * size ≤ i' * size + j ∧ i' * size + j < i * size + (a.eval x).cells.size) := by
      rcases Nat.lt_or_gt_of_ne hne with hlt | hgt
      ·have : (i' + 1) * size ≤ i * size := Nat.mul_le_mul_right _ hlt
       rw [Nat.succ_mul] at this
       omega
      ·have : (i + 1) * size ≤ i' * size := Nat.mul_le_mul_right _ hgt
       rw [Nat.succ_mul] at this
       omega
     rw [if_neg hout]
     exact ⟨u,hu,hr⟩) h
  refine ⟨rs, ?_,by simpa using g2,by simpa using g3,g4⟩
  have hno : ¬ (decide ((a.eval x).cells.size ≠ size) || decide (i * size + (a.eval x).cells.size > cs.size)) = true := by
   simp only [Bool.or_eq_true,decide_eq_true_eq]
   omega
  simp only [List.map_cons,Instr.fill]
  rw [if_neg hno]
  exact g1
theorem q6q {te : TI} {t : TypeId} (ht : qb P t te) {z : Value} (h2 : te.zero.length = z.cells.size)
  (h3 : ∀ (i : Nat) p v,te.zero[i]? = some p → z.cells.toList[i]? = some v → RP w Im p v) (len : Nat) :
  zk w Im te.size (List.replicate len te.zero) (((Array.range (len * te.size)).map (z.cells[· % z.cells.size]!))[·]?) := by
 refine ⟨fun e he => ?_,fun i e j p hi hj => ?_,fun i e j p hi hj => ?_⟩
 ·rw [List.eq_of_mem_replicate he,ht.len]
 ·rw [List.getElem?_replicate] at hi
  split at hi <;> cases hi
  exact ht.flat p (List.mem_of_getElem? hj)
 ·rw [List.getElem?_replicate] at hi
  split at hi <;> cases hi
  rename_i hlt
  have hj' := (List.getElem?_eq_some_iff.1 hj).1
  have hl := ht.len
  have hb : i * te.size + j < len * te.size := by
   have : (i + 1) * te.size ≤ len * te.size := Nat.mul_le_mul_right _ hlt
   rw [Nat.succ_mul] at this
   omega
  have hm : (i * te.size + j) % z.cells.size = j := by
   rw [← h2,hl,Nat.mul_comm,Nat.mul_add_mod]
   exact Nat.mod_eq_of_lt (by omega)
  have hjz : j < z.cells.size := by omega
  refine ⟨z.cells[j], ?_,h3 j p _ hj (by simp [hjz])⟩
  simp [hb,hm,hjz]
theorem qun {G : TypeId → Option TI} (hG : ∀ t ti,G t = some ti → qb P t ti) {t e : TypeId} {ti te : TI} (ht : qb P t ti) (htd : ti.td = .slice e) (hte : G e = some te)
  (hi : qa w H ι Im) {nx : Nat} {X : Nat → Prop} (hnx : Bd X H nx) (hX : ¬ X nx)
  {a : Act} {E : Env} (hE : ∀ t,RA w H ι Im (E.get t) (a.tmps.getD t undef)) (len : Nat) (parts : Array (Nat × Operand)) (hpos : 0 < te.size) (hlen : len * te.size ≤ 2 ^ 24)
  {es : List (List PV)} (hr : uu te.size (ev E) parts.toList (List.replicate len te.zero) = some es) :
  ∃ u w',(Instr.buildSlice t len (parts.map fun (i,x) => (i,a.eval x))).run P w = .ok u w' ∧
   Did X w H ι Im nx (.row nx es.length 0 es.length,[(nx,.row false te.size es)],nx + 1) u w' := by
 have hte' := hG _ _ hte
 obtain ⟨z,h1,h2,h3,h4⟩ := q27 (w := w) (Im := Im) hte'
 have hzr := q6q (w := w) (Im := Im) hte' h2 h3 len
 obtain ⟨rs,g1,g2,g3,g4⟩ := q8o hE te.size parts.toList _ _ (by simp) hzr hr
 have hes : es.length = len := by simpa using g2
 have hparts : (parts.map fun (i,x) => (i,a.eval x)).toList = parts.toList.map fun (i,x) => (i,a.eval x) := by simp
 refine ⟨.slice (some ⟨w.heap.size,0,none⟩) es.length es.length, { w with heap := w.heap.push (.cells rs e) }, ?_,q5q hi hnx hX te.size es rs e (0,0) es.length _ rfl ⟨rfl,rfl⟩ (jo _) hpos (by rw [g3,hes]; simp) (Nat.le_refl _) g4⟩
 unfold Instr.buildSlice
 simp only [Sem.run_bind,qi (ht.slice htd),Result.andThen_ok,hte'.size]
 rw [hparts]
 have hno : ¬ (len * te.size > 2 ^ 24) := by omega
 by_cases h0 : len * te.size = 0
 ·simp only [h0] at g1 ⊢
  have hz0 : ((Array.range 0).map fun x => (#[] : Array Value)[x % (#[] : Array Value).size]!) = ((Array.range 0).map (z.cells[· % z.cells.size]!)) := by simp
  simp only [Nat.reducePow,Nat.not_lt_zero,gt_iff_lt,if_false,Sem.run_pure,Result.andThen_ok,if_true,Sem.run_bind,hz0,g1,hes]
  simp [newRow]
 ·simp only [hno,if_false,Sem.run_pure,Result.andThen_ok,h0,Sem.run_bind,h1,g1,hes]
  simp [newRow]
theorem qjr {sz : Nat} {z : List PV} {len : Nat} {cs : Nat → Option Value} (h : zk w Im sz (List.replicate len z) cs) : ja w H ι Im sz (List.replicate len (z.map AV.pv)) cs := by
 have get : ∀ (i : Nat) e,(List.replicate len (z.map AV.pv))[i]? = some e → (List.replicate len z)[i]? = some z ∧ e = z.map AV.pv := by
  intro i e h
  rw [List.getElem?_replicate] at h ⊢
  split at h <;> cases h
  rename_i hlt
  exact ⟨if_pos hlt,rfl⟩
 refine ⟨fun e he => ?_,fun i e j x hi hj => ?_,fun i e j x hi hj => ?_⟩
 ·obtain ⟨i,hi⟩ := List.getElem?_of_mem he
  obtain ⟨h1,rfl⟩ := get i e hi
  rw [List.length_map]
  exact h.1 z (List.mem_of_getElem? h1)
 ·obtain ⟨h1,rfl⟩ := get i e hi
  rw [List.getElem?_map,Option.map_eq_some_iff] at hj
  obtain ⟨p,hp,rfl⟩ := hj
  exact h.2.1 i z j p h1 hp
 ·obtain ⟨h1,rfl⟩ := get i e hi
  rw [List.getElem?_map,Option.map_eq_some_iff] at hj
  obtain ⟨p,hp,rfl⟩ := hj
  obtain ⟨v,g1,g2⟩ := h.2.2 i z j p h1 hp
  exact ⟨v,g1,.pv _ _ g2⟩
theorem qol {G : TypeId → Option TI} (hG : ∀ t ti,G t = some ti → qb P t ti) {t e : TypeId} {ti te : TI} (ht : qb P t ti) (htd : ti.td = .slice e) (hte : G e = some te)
  (hi : qa w H ι Im) {nx : Nat} {X : Nat → Prop} (hnx : Bd X H nx) (hX : ¬ X nx)
  {a : Act} {E : Env} (hE : ∀ t,RA w H ι Im (E.get t) (a.tmps.getD t undef)) (len : Nat) (parts : Array (Nat × Operand)) (hpos : 0 < te.size) (hlen : len * te.size ≤ 2 ^ 24)
  {es : List (List AV)} (hr : q08 te.size (ev E) parts.toList (List.replicate len (te.zero.map .pv)) = some es) :
  ∃ u w',(Instr.buildSlice t len (parts.map fun (i,x) => (i,a.eval x))).run P w = .ok u w' ∧
   Did X w H ι Im nx (.row nx es.length 0 es.length,[(nx,.ql te.size es)],nx + 1) u w' := by
 have hte' := hG _ _ hte
 obtain ⟨z,h1,h2,h3,h4⟩ := q27 (w := w) (Im := Im) hte'
 have hzr := qjr (H := H) (ι := ι) (q6q (w := w) (Im := Im) hte' h2 h3 len)
 obtain ⟨rs,g1,g2,g3,g4⟩ := qcv hE te.size parts.toList _ _ (by simp) hzr hr
 have hes : es.length = len := by simpa using g2
 have hparts : (parts.map fun (i,x) => (i,a.eval x)).toList = parts.toList.map fun (i,x) => (i,a.eval x) := by simp
 refine ⟨.slice (some ⟨w.heap.size,0,none⟩) es.length es.length, { w with heap := w.heap.push (.cells rs e) }, ?_,q9o hi hnx hX te.size es rs e (0,0) es.length _ rfl ⟨rfl,rfl⟩ (jo _) hpos (by rw [g3,hes]; simp) (Nat.le_refl _) g4⟩
 unfold Instr.buildSlice
 simp only [Sem.run_bind,qi (ht.slice htd),Result.andThen_ok,hte'.size]
 rw [hparts]
 have hno : ¬ (len * te.size > 2 ^ 24) := by omega
 by_cases h0 : len * te.size = 0
 ·simp only [h0] at g1 ⊢
  have hz0 : ((Array.range 0).map fun x => (#[] : Array Value)[x % (#[] : Array Value).size]!) = ((Array.range 0).map (z.cells[· % z.cells.size]!)) := by simp
  simp only [Nat.reducePow,Nat.not_lt_zero,gt_iff_lt,if_false,Sem.run_pure,Result.andThen_ok,if_true,Sem.run_bind,hz0,g1,hes]
  simp [newRow]
 ·simp only [hno,if_false,Sem.run_pure,Result.andThen_ok,h0,Sem.run_bind,h1,g1,hes]
  simp [newRow]
theorem zrq {G : TypeId → Option TI} (hG : ∀ t ti,G t = some ti → qb P t ti) {t : TypeId} {ti : TI} (ht : qb P t ti)
  (hi : qa w H ι Im) {nx : Nat} {X : Nat → Prop} (hnx : Bd X H nx) (hX : ∀ γ,X γ → nx + 1 ≤ γ)
  {l c : AV} {vl vc : Value} (hl : RA w H ι Im l vl) (hc : RA w H ι Im c vc) {e : Eff} (hr : q2u ti.td G l c nx = some e) :
  ∃ u w',(Instr.makeSlice t vl vc).run P w = .ok u w' ∧ Did X w H ι Im nx e u w' := by
 unfold q2u at hr
 split at hr
 rotate_left
 ·cases hr
 rename_i el htd
 split at hr
 rotate_left
 ·cases hr
 rename_i te n n' hte hln hcn
 split at hr <;> cases hr
 rename_i hh
 obtain ⟨rfl,hpos,hroom⟩ := hh
 have natInv : ∀ {x : AV} {v : Value} {m : Nat},RA w H ι Im x v → zy x = some m → ∃ k,v = .int k (m : Int) := by
  intro x v m hx hm
  unfold zy at hm
  split at hm
  ·rename_i k z
   split at hm <;> cases hm
   rename_i h0
   cases hx with
   | pv _ _ h =>
    cases h
    exact ⟨k,by rw [Int.toNat_of_nonneg h0]⟩
  ·cases hm
 obtain ⟨k1,rfl⟩ := natInv hl hln
 obtain ⟨k2,rfl⟩ := natInv hc hcn
 have hte' := hG _ _ hte
 obtain ⟨i,z0,q1,q2,q3,q4,q5,q6⟩ := hte'.info
 obtain ⟨z,h1,h2,h3,h4⟩ := q27 (w := w) (Im := Im) hte'
 have hzr := q6q (w := w) (Im := Im) hte' h2 h3 n'
 simp only [j5,Bool.and_eq_true,decide_eq_true_eq] at hroom
 obtain ⟨⟨r1,r2⟩,r3⟩ := hroom
 have hw0 : IntKind.i64.wrap (n' : Int) = (n' : Int) := IntWalk.i64_in _ ⟨by omega,by omega⟩
 have hb : i.bytes * n' ≤ 2 ^ 46 := by rw [q3,Nat.mul_comm]; exact r1
 have hno : ¬ (((i.bytes : Int) * (n' : Int)) > 2 ^ 48) := by
  have : ((i.bytes * n' : Nat) : Int) ≤ 2 ^ 46 := by omega
  rw [Int.natCast_mul] at this
  omega
 refine ⟨.slice (some ⟨w.heap.size,0,none⟩) (List.replicate n' te.zero).length n', { w with heap := w.heap.push (.cells ((Array.range (n' * te.size)).map (z.cells[· % z.cells.size]!)) el) }, ?_,q5q hi hnx (bf hX) te.size _ _ el (0,0) n' _ rfl ⟨rfl,rfl⟩ (jo _) hpos (by simp) (by simp) hzr⟩
 unfold Instr.makeSlice
 have hneg : ¬ ((n' : Int) < 0) := by omega
 simp only [Sem.run_bind,qi (ht.slice htd),Result.andThen_ok,asInt,asIntOf,Sem.run_pure,q1w q1,hw0]
 have hgt : ¬ ((n' : Int) > (n' : Int)) := by omega
 simp only [hneg,hno,hgt,decide_false,Bool.or_self,Bool.false_eq_true,if_false,Int.toNat_natCast,run_askRoom,Result.andThen_ok,hte'.size,Sem.run_bind]
 by_cases h0 : n' * te.size = 0
 ·have hz0 : ((Array.range 0).map fun x => (#[] : Array Value)[x % (#[] : Array Value).size]!) = ((Array.range 0).map (z.cells[· % z.cells.size]!)) := by simp
  simp only [h0,if_true,Sem.run_pure,Result.andThen_ok,hz0,newRow,Sem.run_bind,run_newObj,List.length_replicate]
 ·simp only [h0,if_false,Sem.run_bind,h1,Sem.run_pure,Result.andThen_ok,newRow,run_newObj,List.length_replicate]
end
end Go.Gm
set_option linter.unusedSectionVars false
namespace Go.Gm
open Go
section
variable [Globs] {P : Program} {w : World} {H : Heap} {ι : Plc} {Im : Nat → Prop}
theorem Evo.zw {w' : World} (h : w'.heap = w.heap) (hio : w'.os = w.os ∧ w'.output = w.output) : Evo w H ι Im w' H ι Im where
 comp := fun β b h => ⟨b,h,gz b _⟩
 im := fun _ h => h
 imnew := fun _ h => .inl h
 plnew := fun β x z h hu => .inr ⟨β,x,h,hu⟩
 same := fun _ _ _ => by rw [h]
 size := by rw [h]; exact Nat.le_refl _
 io := hio
theorem qa.zw {w' : World} (h : w'.heap = w.heap) (hio : w'.os = w.os ∧ w'.output = w.output) (hi : qa w H ι Im) : qa w' H ι Im where
 blk := fun β b hb => (hi.blk β b hb).mono hi (Evo.zw h hio) (fun _ => ⟨rfl,fun _ _ => by rw [h]⟩)
 inj := hi.inj
 im := fun b hb => by rw [h]; exact hi.im b hb
 nim := hi.nim
 glb := Globs.go hi.glb hi.gim fun b _ => by rw [h]
 gim := hi.gim
theorem RA.zw {w' : World} (h : w'.heap = w.heap) (hio : w'.os = w.os ∧ w'.output = w.output) (hi : qa w H ι Im) {x : AV} {v : Value} (hx : RA w H ι Im x v) : RA w' H ι Im x v := hx.mono hi (Evo.zw h hio)
theorem q05 (hi : qa w H ι Im) {x : AV} {v : Value} (hx : RA w H ι Im x v) {xsz : Nat} {src : List (List PV)} (h : j3 x H = some (xsz,src)) :
  (Builtin.lenOf v).run P w = .ok src.length w ∧
  ∀ size,(xsz = size ∨ src = []) → ∃ cs,(Builtin.firstCells size src.length v).run P w = .ok cs w ∧ cs.size = src.length * size ∧ zk w Im size src (cs[·]?) := by
 have empty : ∀ (v : Value),(∃ a c,v = .slice (some a) 0 c) ∨ (∃ c,v = .slice none 0 c) → (Builtin.lenOf v).run P w = .ok ([] : List (List PV)).length w ∧
   ∀ size,∃ cs,(Builtin.firstCells size ([] : List (List PV)).length v).run P w = .ok cs w ∧ cs.size = ([] : List (List PV)).length * size ∧ zk w Im size [] (cs[·]?) := by
  intro v hv
  rcases hv with ⟨a,c,rfl⟩ | ⟨c,rfl⟩
  ·refine ⟨by simp [Builtin.lenOf],fun size => ⟨#[], ?_,by simp,by simp [zk]⟩⟩
   simp [Builtin.firstCells,loadCells,loadCellsFrom]
  ·exact ⟨by simp [Builtin.lenOf],fun size => ⟨#[],by simp [Builtin.firstCells],by simp,by simp [zk]⟩⟩
 unfold j3 at h
 split at h
 ·rename_i isnil sz es
  cases h
  cases hx with
  | pv _ _ h => cases h with
   | nilsl sz =>
    obtain ⟨e1,e2⟩ := empty (.slice none 0 0) (.inr ⟨_,rfl⟩)
    exact ⟨e1,fun size _ => e2 size⟩
   | sl _ _ b off cap vs him hcap hsz hc hf h sp hsp =>
    refine ⟨by simp [Builtin.lenOf],fun size hs => ?_⟩
    by_cases hes : src = []
    ·subst hes
     exact (empty _ (.inl ⟨_,_,rfl⟩)).2 size
    obtain rfl := hsp hes
    rcases hs with rfl | rfl
    ·refine ⟨((List.range (src.length * xsz)).map vs).toArray, ?_,by simp,hsz,hf,fun i e j p hi' hj => ?_⟩
     ·simp only [Builtin.firstCells]
      exact run_loadCells b off _ vs hc
     ·have hlt := (List.getElem?_eq_some_iff.1 hi').1
      have hj' := (List.getElem?_eq_some_iff.1 hj).1
      have he := hsz e (List.mem_of_getElem? hi')
      have : (i + 1) * xsz ≤ src.length * xsz := Nat.mul_le_mul_right _ hlt
      rw [Nat.succ_mul] at this
      refine ⟨vs (i * xsz + j), ?_,h i e j p hi' hj⟩
      simp only [List.getElem?_toArray,List.getElem?_map]
      rw [List.getElem?_range (by omega)]
      rfl
    ·exact absurd rfl hes
 ·cases h
  cases hx with
  | zsl a =>
   obtain ⟨e1,e2⟩ := empty (.slice (some a) 0 0) (.inl ⟨_,_,rfl⟩)
   exact ⟨e1,fun size _ => e2 size⟩
 ·rename_i β ver off n
  split at h
  rotate_left
  ·cases h
  rename_i isnil sz es hb
  split at h <;> cases h
  rename_i hver
  cases hx with
  | row _ _ _ _ _ b ho hb' hk hv hh =>
   rw [hb] at hb'
   cases hb'
   obtain ⟨h1,h2⟩ := hh _ _ _ rfl hver
   have hln : ((es.drop off).take n).length = n := by simp; omega
   cases hn : isnil
   ·rw [hn] at h2 hb
    simp only [Bool.false_eq_true,if_false] at h2
    obtain ⟨a,rfl,ha1,ha2,ha3⟩ := h2
    obtain ⟨ab,ao,asp⟩ := a
    simp only at ha1 ha2 ha3
    subst ha1 ha2
    refine ⟨by rw [hln]; simp [Builtin.lenOf],fun size hs => ?_⟩
    by_cases hn0 : n = 0
    ·subst hn0
     have : (es.drop off).take 0 = [] := by simp
     rw [this]
     exact (empty _ (.inl ⟨_,_,rfl⟩)).2 size
    obtain ⟨vs,elem,fz,g1,g2,g3,g4,g5,g6,g7,g8⟩ := hi.row hb
    have hao := ha3 (by omega)
    subst hao
    have hs' : xsz = size := by
     rcases hs with h | h
     ·exact h
     ·rw [h] at hln; simp at hln; omega
    subst hs'
    have hget : ∀ (i : Nat) e,((es.drop off).take n)[i]? = some e → i < n ∧ es[off + i]? = some e := by
     intro i e hie
     have := (List.getElem?_eq_some_iff.1 hie).1
     have hin : i < n := by omega
     rw [List.getElem?_take_of_lt hin,List.getElem?_drop] at hie
     exact ⟨hin,hie⟩
    have hmul : off * xsz + n * xsz ≤ es.length * xsz := by rw [← Nat.add_mul]; exact Nat.mul_le_mul_right _ h1
    have hmul2 : es.length * xsz ≤ (ι β).cap * xsz := Nat.mul_le_mul_right _ g5
    rw [hln]
    refine ⟨((List.range (n * xsz)).map fun j => (vs[off * xsz + j]?).getD undef).toArray, ?_,by simp,fun e he => ?_,fun i e j p hie hj => ?_,fun i e j p hie hj => ?_⟩
    ·simp only [Builtin.firstCells]
     refine run_loadCells _ _ _ _ fun j hj => ?_
     rw [jw g1]
     have : off * xsz + j < vs.size := by omega
     simp [this]
    ·exact g6 e (List.mem_of_mem_drop (List.mem_of_mem_take he))
    ·exact g7 _ e j p (hget i e hie).2 hj
    ·obtain ⟨hin,hie'⟩ := hget i e hie
     obtain ⟨v,k1,k2⟩ := g8 _ e j p hie' hj
     have hj' := (List.getElem?_eq_some_iff.1 hj).1
     have he := g6 e (List.mem_of_getElem? hie')
     have : (i + 1) * xsz ≤ n * xsz := Nat.mul_le_mul_right _ hin
     rw [Nat.succ_mul] at this
     refine ⟨v, ?_,k2⟩
     have e1 : off * xsz + (i * xsz + j) = (off + i) * xsz + j := by rw [Nat.add_mul]; omega
     simp only [List.getElem?_toArray,List.getElem?_map]
     rw [List.getElem?_range (by omega)]
     simp only [Option.map_some,e1,k1,Option.getD_some]
   ·rw [hn] at h2 hb
    have hes : es = [] := hi.blk β _ hb
    subst hes
    simp only [if_true] at h2
    subst h2
    have : (([] : List (List PV)).drop off).take n = [] := by simp
    rw [this]
    obtain ⟨e1,e2⟩ := empty (.slice none 0 0) (.inr ⟨_,rfl⟩)
    exact ⟨e1,fun size _ => e2 size⟩
 ·rename_i s
  cases h
  cases hx with
  | pv _ _ h => cases h with
   | str l =>
    refine ⟨by simp [Builtin.lenOf,ByteArray.size],fun size hs => ?_⟩
    refine ⟨(s.map fun b => Value.int .u8 b.toNat).toArray, ?_, ?_, ?_⟩
    ·simp only [Builtin.firstCells,List.length_map]
     have : (ByteArray.mk ⟨s⟩).extract 0 s.length = ⟨⟨s⟩⟩ := by
      apply ByteArray.ext
      simp
     rw [this]
     simp
    ·rcases hs with rfl | h
     ·simp
     ·have : s = [] := by simpa using h
      subst this
      simp
    ·rcases hs with rfl | h
     ·refine ⟨fun e he => ?_,fun i e j p hi' hj => ?_,fun i e j p hi' hj => ?_⟩
      ·simp only [List.mem_map] at he
       obtain ⟨b,_,rfl⟩ := he
       rfl
      ·simp only [List.getElem?_map,Option.map_eq_some_iff] at hi'
       obtain ⟨b,_,rfl⟩ := hi'
       cases j with
       | zero => simp at hj; subst hj; rfl
       | succ j => simp at hj
      ·simp only [List.getElem?_map,Option.map_eq_some_iff] at hi'
       obtain ⟨b,hb,rfl⟩ := hi'
       cases j with
       | zero =>
        simp at hj
        subst hj
        exact ⟨.int .u8 b.toNat,by simp [hb],.int _ _⟩
       | succ j => simp at hj
     ·have : s = [] := by simpa using h
      subst this
      simp [zk]
 ·cases h
end
end Go.Gm
set_option linter.unusedSectionVars false
namespace Go.Gm
open Go
section
variable [Globs] {P : Program} {w : World} {H : Heap} {ι : Plc} {Im : Nat → Prop}
theorem qbc (newLen : Nat) : ∀ (r c : Nat),c ≤ newLen + (newLen + 768) / 4 → Builtin.growBy newLen r c ≤ newLen + (newLen + 768) / 4
 | 0,c,h => h
 | r + 1,c,h => by
  simp only [Builtin.growBy]
  split
  ·exact h
  ·exact qbc newLen r _ (by omega)
theorem nextslicecap_le {need cap : Nat} (h : cap < need) : Builtin.nextslicecap need cap ≤ 2 * need + 192 := by
 unfold Builtin.nextslicecap
 split
 ·omega
 ·split
  ·omega
  ·have := qbc need 4 cap (by omega)
   omega
theorem qmf {need bytes : Nat} (h : j5 need bytes = true) {cap : Nat} (hc : cap < need) :
  Builtin.nextslicecap need cap * bytes ≤ 2 ^ 48 ∧ (need : Int) ≤ IntKind.i64.max := by
 unfold j5 at h
 simp only [Bool.and_eq_true,decide_eq_true_eq] at h
 obtain ⟨⟨h1,h2⟩,h3⟩ := h
 refine ⟨?_, ?_⟩
 ·have := nextslicecap_le hc
  calc Builtin.nextslicecap need cap * bytes ≤ (2 * need + 192) * bytes := Nat.mul_le_mul_right _ this
   _ = 2 * (need * bytes) + 192 * bytes := by rw [Nat.add_mul,Nat.mul_assoc]
   _ ≤ 2 ^ 48 := by omega
 ·have : IntKind.i64.max = 9223372036854775807 := by decide
  rw [this]
  omega
theorem zk.append {sz : Nat} {es1 es2 : List (List PV)} {cs1 cs2 rest : Array Value} (h1 : zk w Im sz es1 (cs1[·]?)) (h2 : zk w Im sz es2 (cs2[·]?))
  (hl : cs1.size = es1.length * sz) : zk w Im sz (es1 ++ es2) ((cs1 ++ cs2 ++ rest)[·]?) := by
 have hb1 : ∀ (i : Nat) e (j : Nat) p,es1[i]? = some e → e[j]? = some p → i * sz + j < cs1.size := by
  intro i e j p hi hj
  have hlt := (List.getElem?_eq_some_iff.1 hi).1
  have hj' := (List.getElem?_eq_some_iff.1 hj).1
  have he := h1.1 e (List.mem_of_getElem? hi)
  have : (i + 1) * sz ≤ es1.length * sz := Nat.mul_le_mul_right _ hlt
  rw [Nat.succ_mul] at this
  omega
 have split : ∀ (i : Nat) e,(es1 ++ es2)[i]? = some e → (es1[i]? = some e) ∨ (es1.length ≤ i ∧ es2[i - es1.length]? = some e) := by
  intro i e h
  rw [List.getElem?_append] at h
  split at h
  ·exact .inl h
  ·exact .inr ⟨by omega,h⟩
 refine ⟨fun e he => ?_,fun i e j p hi hj => ?_,fun i e j p hi hj => ?_⟩
 ·rcases List.mem_append.1 he with h | h
  ·exact h1.1 e h
  ·exact h2.1 e h
 ·rcases split i e hi with h | ⟨_,h⟩
  ·exact h1.2.1 i e j p h hj
  ·exact h2.2.1 _ e j p h hj
 ·rcases split i e hi with h | ⟨hle,h⟩
  ·obtain ⟨v,g1,g2⟩ := h1.2.2 i e j p h hj
   refine ⟨v, ?_,g2⟩
   have := hb1 i e j p h hj
   simp only [Array.append_assoc]
   rw [Array.getElem?_append_left this]
   exact g1
  ·obtain ⟨v,g1,g2⟩ := h2.2.2 _ e j p h hj
   refine ⟨v, ?_,g2⟩
   have e1 : i * sz + j = cs1.size + ((i - es1.length) * sz + j) := by
    rw [hl]
    have : i = es1.length + (i - es1.length) := by omega
    conv => lhs; rw [this,Nat.add_mul]
    omega
   have hlt : (i - es1.length) * sz + j < cs2.size := by
    rcases Nat.lt_or_ge ((i - es1.length) * sz + j) cs2.size with h | h
    ·exact h
    ·have : cs2[(i - es1.length) * sz + j]? = none := Array.getElem?_eq_none h
     simp only [this] at g1
     cases g1
   show (cs1 ++ cs2 ++ rest)[i * sz + j]? = some v
   rw [e1,Array.getElem?_append_left (by simp; omega),Array.getElem?_append_right (by omega)]
   simpa using g1
theorem ja.append {sz : Nat} {es1 es2 : List (List AV)} {cs1 cs2 rest : Array Value} (h1 : ja w H ι Im sz es1 (cs1[·]?)) (h2 : ja w H ι Im sz es2 (cs2[·]?))
  (hl : cs1.size = es1.length * sz) : ja w H ι Im sz (es1 ++ es2) ((cs1 ++ cs2 ++ rest)[·]?) := by
 have hb1 : ∀ (i : Nat) e (j : Nat) p,es1[i]? = some e → e[j]? = some p → i * sz + j < cs1.size := by
  intro i e j p hi hj
  have hlt := (List.getElem?_eq_some_iff.1 hi).1
  have hj' := (List.getElem?_eq_some_iff.1 hj).1
  have he := h1.1 e (List.mem_of_getElem? hi)
  have : (i + 1) * sz ≤ es1.length * sz := Nat.mul_le_mul_right _ hlt
  rw [Nat.succ_mul] at this
  omega
 have split : ∀ (i : Nat) e,(es1 ++ es2)[i]? = some e → (es1[i]? = some e) ∨ (es1.length ≤ i ∧ es2[i - es1.length]? = some e) := by
  intro i e h
  rw [List.getElem?_append] at h
  split at h
  ·exact .inl h
  ·exact .inr ⟨by omega,h⟩
 refine ⟨fun e he => ?_,fun i e j p hi hj => ?_,fun i e j p hi hj => ?_⟩
 ·rcases List.mem_append.1 he with h | h
  ·exact h1.1 e h
  ·exact h2.1 e h
 ·rcases split i e hi with h | ⟨_,h⟩
  ·exact h1.2.1 i e j p h hj
  ·exact h2.2.1 _ e j p h hj
 ·rcases split i e hi with h | ⟨hle,h⟩
  ·obtain ⟨v,g1,g2⟩ := h1.2.2 i e j p h hj
   refine ⟨v, ?_,g2⟩
   have := hb1 i e j p h hj
   simp only [Array.append_assoc]
   rw [Array.getElem?_append_left this]
   exact g1
  ·obtain ⟨v,g1,g2⟩ := h2.2.2 _ e j p h hj
   refine ⟨v, ?_,g2⟩
   have e1 : i * sz + j = cs1.size + ((i - es1.length) * sz + j) := by
    rw [hl]
    have : i = es1.length + (i - es1.length) := by omega
    conv => lhs; rw [this,Nat.add_mul]
    omega
   have hlt : (i - es1.length) * sz + j < cs2.size := by
    rcases Nat.lt_or_ge ((i - es1.length) * sz + j) cs2.size with h | h
    ·exact h
    ·have : cs2[(i - es1.length) * sz + j]? = none := Array.getElem?_eq_none h
     simp only [this] at g1
     cases g1
   show (cs1 ++ cs2 ++ rest)[i * sz + j]? = some v
   rw [e1,Array.getElem?_append_left (by simp; omega),Array.getElem?_append_right (by omega)]
   simpa using g1
def qz (w : World) : World := { w with drawn := w.drawn + 1 }
theorem q3b {ts tx e : TypeId} {ti te tix : TI} (hts : qb P ts ti) (htd : ti.td = .slice e) (hte : qb P e te) (htx : qb P tx tix)
  (hx' : (∃ e',tix.td = .slice e') ∨ tix.td = .string) (tt : TypeId) (base : Option Addr) (n cap k : Nat) (v : Value)
  (hlen : (Builtin.lenOf v).run P w = .ok k w) (hgt : cap < n + k) (hroom : j5 (n + k) te.bytes = true)
  (old new : Array Value)
  (ho : (Builtin.firstCells te.size n (.slice base n cap)).run P (qz w) = .ok old (qz w))
  (hn : (Builtin.firstCells te.size k v).run P (qz w) = .ok new (qz w)) :
  ∃ (newCap : Nat) (rest : Array Value),n + k ≤ newCap ∧ rest.size = (newCap - (n + k)) * te.size ∧
   (Builtin.append_ #[ts,tx] tt #[.slice base n cap,v]).run P w =
    .ok (.slice (some ⟨w.heap.size,0,none⟩) (n + k) newCap) { qz w with heap := w.heap.push (.cells (old ++ new ++ rest) e) } := by
 obtain ⟨i,z,q1,q2,q3,q4,q5,q6⟩ := hte.info
 obtain ⟨r1,r2⟩ := qmf hroom hgt
 have hzl : z.cells.size = te.size := by
  have := (q55 (w := w) (Im := fun _ => True) q5).1
  have := hte.len
  simp at *
  omega
 let nc : Nat := Question.cut (.appendCap (n + k) cap e) (w.tape w.drawn (.appendCap (n + k) cap e))
 have hnc : n + k ≤ nc := by simp [nc,Question.cut]
 refine ⟨nc,Builtin.zeroCells z.cells (nc - (n + k)),hnc,by simp [Builtin.zeroCells,hzl], ?_⟩
 have hzero : (zeroValue e).run P (qz w) = .ok z (qz w) := by simp [zeroValue,q1w q1,q4]
 have hno1 : ¬ (n + k ≤ cap) := by omega
 have hno3 : ¬ (Builtin.nextslicecap (n + k) cap * te.bytes > 2 ^ 48) := by omega
 have hno2 : ¬ (((n + k : Nat) : Int) > IntKind.i64.max) := by omega
 have htxx : P.underlying tx = some .string ∨ ∃ e',P.underlying tx = some (.slice e') := by
  rcases hx' with ⟨e',h⟩ | h
  ·exact .inr ⟨_,htx.slice h⟩
  ·exact .inl (htx.string h)
 have hch : (choose (Question.appendCap (n + k) cap e)).run P w = .ok nc (qz w) := by
  simp [choose,Sem.run,Question.forced,nc,qz]
 have hti : ∀ w',(typeInfo e).run P w' = .ok i w' := fun w' => q1w q1
 rw [← q3] at hno3
 unfold Builtin.append_
 rcases htxx with hd | ⟨e',hd⟩
 all_goals
  simp only [List.getElem?_toArray,List.getElem?_cons_zero,List.getElem?_cons_succ,Sem.run_bind,qi (hts.slice htd),Result.andThen_ok,hte.size,qi hd,Sem.run_pure,hlen,
   Bool.false_eq_true,if_false,hno1,hti,hno2,false_and,hno3,hch,run_askRoom,ho,Bool.not_false,if_true,hn,hzero,newRow,run_newObj]
  rfl
theorem run_append_fits {ts tx e : TypeId} {ti te tix : TI} (hts : qb P ts ti) (htd : ti.td = .slice e) (hte : qb P e te) (htx : qb P tx tix)
  (hx' : (∃ e',tix.td = .slice e') ∨ tix.td = .string) (tt : TypeId) (base : Option Addr) (n cap k : Nat) (v : Value)
  (hlen : (Builtin.lenOf v).run P w = .ok k w) (hle : n + k ≤ cap) (new : Array Value) (hnew : (Builtin.firstCells te.size k v).run P w = .ok new w) (w' : World)
  (hst : ∀ a,base = some a → (storeCells (a.add (n * te.size)) new.toList).run P w = .ok () w') (hnone : base = none → w' = w) :
  (Builtin.append_ #[ts,tx] tt #[.slice base n cap,v]).run P w = .ok (.slice base (n + k) cap) w' := by
 have htxx : P.underlying tx = some .string ∨ ∃ e',P.underlying tx = some (.slice e') := by
  rcases hx' with ⟨e',h⟩ | h
  ·exact .inr ⟨_,htx.slice h⟩
  ·exact .inl (htx.string h)
 unfold Builtin.append_
 rcases htxx with hd | ⟨e',hd⟩
 all_goals
  simp only [List.getElem?_toArray,List.getElem?_cons_zero,List.getElem?_cons_succ,Sem.run_bind,qi (hts.slice htd),Result.andThen_ok,hte.size,qi hd,Sem.run_pure,hlen,
   Bool.false_eq_true,if_false,hle,Bool.not_false,if_true,hnew]
  cases base with
  | none => rw [hnone rfl]; rfl
  | some a => simp only [Sem.run_bind,hst a rfl,Result.andThen_ok,Sem.run_pure]
theorem q78 {ts tx e : TypeId} {ti te tix : TI} (hts : qb P ts ti) (htd : ti.td = .slice e) (hte : qb P e te) (htx : qb P tx tix)
  (hx' : (∃ e',tix.td = .slice e') ∨ tix.td = .string) (tt : TypeId) (hi : qa w H ι Im) {y : AV} {vy : Value} (hy : RA w H ι Im y vy)
  {xsz : Nat} {src : List (List PV)} (hsrc : j3 y H = some (xsz,src)) (hsz : xsz = te.size ∨ src = []) (hne : src ≠ []) (hroom : j5 src.length te.bytes = true)
  (base : Option Addr) :
  ∃ (newCap : Nat) (w' : World) (cs : Array Value),src.length ≤ newCap ∧ (w'.heap = w.heap.push (.cells cs e) ∧ w'.os = w.os ∧ w'.output = w.output) ∧ cs.size = newCap * te.size ∧ zk w Im te.size src (cs[·]?) ∧
   (Builtin.append_ #[ts,tx] tt #[.slice base 0 0,vy]).run P w = .ok (.slice (some ⟨w.heap.size,0,none⟩) src.length newCap) w' := by
 obtain ⟨l1,l2⟩ := q05 (P := P) hi hy hsrc
 have hpos : 0 < src.length := List.length_pos_iff.2 hne
 have hw : (qz w).heap = w.heap := rfl
 obtain ⟨new,k1,k2,k3⟩ := (q05 (P := P) (hi.zw hw ⟨rfl,rfl⟩) (hy.zw hw ⟨rfl,rfl⟩ hi) hsrc).2 te.size hsz
 obtain ⟨nc,rest,g1,g3,g4⟩ := q3b (w := w) hts htd hte htx hx' tt base 0 0 src.length vy l1 (by omega) (by simpa using hroom) #[] new
  (by
   cases base with
   | none => simp [Builtin.firstCells]
   | some a => simp [Builtin.firstCells,loadCells,loadCellsFrom]) k1
 have hnil : zk (qz w) Im te.size [] (((#[] : Array Value))[·]?) := by simp [zk]
 have hrow := zk.append (rest := rest) hnil k3 (by simp)
 refine ⟨nc, { qz w with heap := w.heap.push (.cells (new ++ rest) e) },_,by omega,⟨rfl,rfl,rfl⟩, ?_, ?_,by simpa using g4⟩
 ·simp only [Array.size_append,k2,g3]
  simp only [Nat.zero_add,Array.size_empty]
  rw [← Nat.add_mul]
  congr 1
  omega
 ·have := hrow.mono (w' := w) (Im' := Im) (fun _ h => h) (fun b _ => by rw [hw])
  simpa using this
theorem qzt {α : Type} (es src : List α) {n : Nat} (h : n = es.length) : es.take n ++ src ++ es.drop (n + src.length) = es ++ src := by
 subst h
 simp [List.drop_eq_nil_of_le]
theorem q21 (hi : qa w H ι Im) {x : AV} {v : Value} (hx : RA w H ι Im x v) {xsz : Nat} {src : List (List AV)} (h : bu x H = some (xsz,src)) :
  (Builtin.lenOf v).run P w = .ok src.length w ∧
  ∃ cs,(Builtin.firstCells xsz src.length v).run P w = .ok cs w ∧ cs.size = src.length * xsz ∧ ja w H ι Im xsz src (cs[·]?) := by
 unfold bu at h
 split at h
 rotate_left
 ·cases h
 rename_i β ver off n
 split at h
 rotate_left
 ·cases h
 rename_i sz es hb
 split at h <;> cases h
 rename_i hver
 cases hx with
 | row _ _ _ _ _ b ho hb' hk hv hh =>
 rw [hb] at hb'
 cases hb'
 obtain ⟨h1,h2⟩ := hh _ _ _ rfl hver
 have hln : ((es.drop off).take n).length = n := by simp; omega
 simp only [Bool.false_eq_true,if_false] at h2
 obtain ⟨a,rfl,ha1,ha2,ha3⟩ := h2
 obtain ⟨ab,ao,asp⟩ := a
 simp only at ha1 ha2 ha3
 subst ha1 ha2
 refine ⟨by rw [hln]; simp [Builtin.lenOf], ?_⟩
 by_cases hn0 : n = 0
 ·subst hn0
  refine ⟨#[], ?_,by simp,by simp [ja]⟩
  simp [Builtin.firstCells,loadCells,loadCellsFrom]
 obtain ⟨vs,elem,fz,g1,g2,g3,g4,g5,g6,g7,g8⟩ := hi.ql hb
 have hao := ha3 (by omega)
 subst hao
 have hget : ∀ (i : Nat) e,((es.drop off).take n)[i]? = some e → i < n ∧ es[off + i]? = some e := by
  intro i e hie
  have := (List.getElem?_eq_some_iff.1 hie).1
  have hin : i < n := by omega
  rw [List.getElem?_take_of_lt hin,List.getElem?_drop] at hie
  exact ⟨hin,hie⟩
 have hmul : off * xsz + n * xsz ≤ es.length * xsz := by rw [← Nat.add_mul]; exact Nat.mul_le_mul_right _ h1
 have hmul2 : es.length * xsz ≤ (ι β).cap * xsz := Nat.mul_le_mul_right _ g5
 rw [hln]
 refine ⟨((List.range (n * xsz)).map fun j => (vs[off * xsz + j]?).getD undef).toArray, ?_,by simp,fun e he => ?_,fun i e j p hie hj => ?_,fun i e j p hie hj => ?_⟩
 ·simp only [Builtin.firstCells]
  refine run_loadCells _ _ _ _ fun j hj => ?_
  rw [jw g1]
  have : off * xsz + j < vs.size := by omega
  simp [this]
 ·exact g6 e (List.mem_of_mem_drop (List.mem_of_mem_take he))
 ·exact g7 _ e j p (hget i e hie).2 hj
 ·obtain ⟨hin,hie'⟩ := hget i e hie
  obtain ⟨v,k1,k2⟩ := g8 _ e j p hie' hj
  have hj' := (List.getElem?_eq_some_iff.1 hj).1
  have he := g6 e (List.mem_of_getElem? hie')
  have : (i + 1) * xsz ≤ n * xsz := Nat.mul_le_mul_right _ hin
  rw [Nat.succ_mul] at this
  refine ⟨v, ?_,k2⟩
  have e1 : off * xsz + (i * xsz + j) = (off + i) * xsz + j := by rw [Nat.add_mul]; omega
  simp only [List.getElem?_toArray,List.getElem?_map]
  rw [List.getElem?_range (by omega)]
  simp only [Option.map_some,e1,k1,Option.getD_some]
theorem q73 {ts tx e : TypeId} {ti te tix : TI} (hts : qb P ts ti) (htd : ti.td = .slice e) (hte : qb P e te) (htx : qb P tx tix)
  (hx' : (∃ e',tix.td = .slice e') ∨ tix.td = .string) (tt : TypeId) (hi : qa w H ι Im) {y : AV} {vy : Value} (hy : RA w H ι Im y vy)
  {src : List (List AV)} (hsrc : bu y H = some (te.size,src)) (hne : src ≠ []) (hroom : j5 src.length te.bytes = true) :
  ∃ (newCap : Nat) (w' : World) (cs : Array Value),src.length ≤ newCap ∧ (w'.heap = w.heap.push (.cells cs e) ∧ w'.os = w.os ∧ w'.output = w.output) ∧ cs.size = newCap * te.size ∧ ja w H ι Im te.size src (cs[·]?) ∧
   (Builtin.append_ #[ts,tx] tt #[.slice none 0 0,vy]).run P w = .ok (.slice (some ⟨w.heap.size,0,none⟩) src.length newCap) w' := by
 obtain ⟨l1,l2⟩ := q21 (P := P) hi hy hsrc
 have hpos : 0 < src.length := List.length_pos_iff.2 hne
 have hw : (qz w).heap = w.heap := rfl
 have hi' := hi.zw hw ⟨rfl,rfl⟩
 obtain ⟨new,k1,k2,k3⟩ := (q21 (P := P) hi' (hy.zw hw ⟨rfl,rfl⟩ hi) hsrc).2
 obtain ⟨nc,rest,g1,g3,g4⟩ := q3b (w := w) hts htd hte htx hx' tt none 0 0 src.length vy l1 (by omega) (by simpa using hroom) #[] new (by simp [Builtin.firstCells]) k1
 have hnil : ja (qz w) H ι Im te.size [] (((#[] : Array Value))[·]?) := by simp [ja]
 have hrow := ja.append (rest := rest) hnil k3 (by simp)
 refine ⟨nc, { qz w with heap := w.heap.push (.cells (new ++ rest) e) },_,by omega,⟨rfl,rfl,rfl⟩, ?_, ?_,by simpa using g4⟩
 ·simp only [Array.size_append,k2,g3]
  simp only [Nat.zero_add,Array.size_empty]
  rw [← Nat.add_mul]
  congr 1
  omega
 ·have := hrow.mono (w' := w) (H' := H) (ι' := ι) (Im' := Im) hi' (Evo.zw (w := qz w) (w' := w) rfl ⟨rfl,rfl⟩)
  simpa using this
theorem qrn {ts tx e : TypeId} {ti te tix : TI} (hts : qb P ts ti) (htd : ti.td = .slice e) (hte : qb P e te) (htx : qb P tx tix)
  (hx' : (∃ e',tix.td = .slice e') ∨ tix.td = .string) (tt : TypeId) (hi : qa w H ι Im) {nx : Nat} {X : Nat → Prop} (hnx : Bd X H nx)
  {x y : AV} {vx vy : Value} (hx : RA w H ι Im x vx) (hy : RA w H ι Im y vy) {r : Eff} (hr : gq te x y H nx = some r) (hX : ∀ γ,X γ → r.2.2 ≤ γ) :
  ∃ u w',(Builtin.append_ #[ts,tx] tt #[vx,vy]).run P w = .ok u w' ∧ Did X w H ι Im nx r u w' := by
 unfold gq at hr
 split at hr
 ·cases hr
 rename_i xsz src hsrc
 split at hr
 rotate_left
 ·cases hr
 rename_i hc
 obtain ⟨rfl,hpos⟩ := hc
 obtain ⟨l1,cs,f1,f2,f3⟩ := q21 (P := P) hi hy hsrc
 split at hr
 ·cases hx with
  | pv _ _ h => cases h with
   | nilsl =>
    unfold q0m at hr
    split at hr
    ·cases hr
    ·split at hr <;> cases hr
     rename_i hroom
     obtain ⟨nc,w',cs',g1,g2,g3,g4,g5⟩ := q73 hts htd hte htx hx' tt hi hy hsrc (by simp) hroom
     exact ⟨_,w',g5,q9o hi hnx (bf hX) te.size _ cs' e (0,0) nc w' g2.1 g2.2 (jo _) hpos g3 g1 g4⟩
 ·rename_i β ver off n
  split at hr
  ·rename_i sz es hb
   split at hr
   rotate_left
   ·cases hr
   rename_i hc
   obtain ⟨hver,hoff,hn⟩ := hc
   subst hoff hn
   cases hx with
   | row _ _ _ _ _ b ho hb' hk hv hh =>
   rw [hb] at hb'
   cases hb'
   obtain ⟨h1,h2⟩ := hh _ _ _ rfl hver
   simp only [if_true] at h2
   subst h2
   have hes : es = [] := hi.blk β _ hb
   subst hes
   unfold q0m at hr
   split at hr
   ·cases hr
   ·rename_i a0 l0
    split at hr <;> cases hr
    rename_i hroom
    obtain ⟨nc,w',cs',g1,g2,g3,g4,g5⟩ := q73 hts htd hte htx hx' tt hi hy hsrc (by simp) hroom
    refine ⟨_,w',g5,qg ι β ⟨w.heap.size,nc,[]⟩, ?_⟩
    have key := qa.put (hno := noO hb rfl) hi (w' := w') β (.ql te.size (a0 :: l0)) ⟨w.heap.size,nc,[]⟩ (fun x hx => by rw [hb] at hx; cases hx; simp [qo,Blk.sh,Pl.same])
     ⟨by rw [g2.1]; simp,g2.2⟩ (fun b' hb' _ => by rw [g2.1]; simp [Array.getElem?_push,Nat.ne_of_lt hb']) (fun _ => .inl (Nat.le_refl _)) (fun he => by
      obtain ⟨k1,k2,k3⟩ := g4.mono hi he
      exact ⟨cs',e,(0,0),by simp [g2],jo _,by simp [g3],hpos,by simpa using g1,k1,k2,k3⟩)
    refine ⟨key.1,key.2, ?_,Nat.le_refl _,zu hnx (Nat.le_refl _) (hnx β _ hb)⟩
    have hg : (qf [(β,Blk.ql te.size (a0 :: l0))] H).get β = some (.ql te.size (a0 :: l0)) := by simp [qf,Heap.get_put]
    refine .row β _ 0 _ _ _ rfl hg (fun _ => ⟨_,_,_,rfl⟩) (fun _ _ _ e => by cases e; exact Nat.le_refl _) fun _ _ _ e _ => ?_
    cases e
    refine ⟨by simp, ?_⟩
    simp only [Bool.false_eq_true,if_false]
    exact ⟨⟨w.heap.size,0,none⟩,by simp,rfl,by simp,fun _ => by simp⟩
  ·rename_i sz es hb
   split at hr <;> cases hr
   rename_i hc
   obtain ⟨hver,rfl,rfl,rfl,hroom⟩ := hc
   have hxx := hx
   cases hx with
   | row _ _ _ _ _ b ho hb' hk hv hh =>
   rw [hb] at hb'
   cases hb'
   obtain ⟨h1,h2⟩ := hh _ _ _ rfl hver
   simp only [Bool.false_eq_true,if_false] at h2
   obtain ⟨a,rfl,ha1,ha2,ha3⟩ := h2
   obtain ⟨ab,ao,asp⟩ := a
   simp only at ha1 ha2 ha3
   subst ha1 ha2
   obtain ⟨vs,elem,fz,g1,g2,g3,g4,g5,g6,g7,g8⟩ := hi.ql hb
   have hg : (qf [(β,Blk.ql te.size (es ++ src))] H).get β = some (.ql te.size (es ++ src)) := by simp [qf,Heap.get_put]
   have hspl : ∀ (i : Nat) e0,(es ++ src)[i]? = some e0 → (i < es.length ∧ es[i]? = some e0) ∨ (es.length ≤ i ∧ src[i - es.length]? = some e0) := by
    intro i e0 h
    rw [List.getElem?_append] at h
    split at h
    ·exact .inl ⟨by assumption,h⟩
    ·exact .inr ⟨by omega,h⟩
   by_cases hfit : es.length + src.length ≤ (ι β).cap
   ·
    by_cases hs : src = []
    ·subst hs
     have hcs0 : cs.size = 0 := by rw [f2]; simp
     have hcl : cs.toList = [] := by simpa using hcs0
     have hrun := run_append_fits (w' := w) hts htd hte htx hx' tt (some ⟨(ι β).b,ao,none⟩) es.length ((ι β).cap - 0) 0 vy l1 (by simpa using hfit) cs f1
      (fun a ha => by rw [hcl]; rfl) (fun h => by cases h)
     refine ⟨_,w,hrun,qg ι β (ι β), ?_⟩
     simp only [List.append_nil] at hg ⊢
     have key := qa.put (hno := noO hb rfl) hi (w' := w) β (.ql te.size es) (ι β) (fun x hx => by rw [hb] at hx; cases hx; exact gz _ _)
      ⟨Nat.le_refl _,rfl,rfl⟩ (fun _ _ _ => rfl) (fun _ => .inr ⟨_,hb,rfl,rfl⟩) (fun hev => (hi.blk β _ hb).mono hi hev (fun _ => ⟨by simp,fun _ _ => rfl⟩))
     refine ⟨key.1,key.2, ?_,Nat.le_refl _,zu hnx (Nat.le_refl _) (hnx β _ hb)⟩
     have := hxx.mono hi key.2
     rw [hver] at this
     exact this
    have hao : ao = 0 := by
     have := List.length_pos_iff.2 hs
     have := ha3 (by omega)
     omega
    subst hao
    have hone : ∀ x ∈ cs.toList,zm x = true := by
     intro x hx
     obtain ⟨m,hm⟩ := List.getElem?_of_mem hx
     have hml : m < src.length * te.size := by
      have := (List.getElem?_eq_some_iff.1 hm).1
      simp at this
      omega
     have hdiv : m / te.size < src.length := Nat.div_lt_of_lt_mul (by rwa [Nat.mul_comm])
     have hmod : m % te.size < te.size := Nat.mod_lt _ hpos
     obtain ⟨e0,he0⟩ : ∃ e0,src[m / te.size]? = some e0 := ⟨src[m / te.size],by simp⟩
     have hel := f3.1 e0 (List.mem_of_getElem? he0)
     obtain ⟨p0,hp0⟩ : ∃ p0,e0[m % te.size]? = some p0 := ⟨e0[m % te.size]'(by omega),by simp⟩
     obtain ⟨v0,q1,q2⟩ := f3.2.2 _ e0 _ p0 he0 hp0
     have : m / te.size * te.size + m % te.size = m := by rw [Nat.mul_comm]; exact Nat.div_add_mod m te.size
     simp only [this] at q1
     have : x = v0 := by
      have h0 : cs[m]? = some x := by simpa using hm
      rw [h0] at q1
      exact Option.some.inj q1
     subst this
     exact q2.zm (f3.2.1 _ e0 _ p0 he0 hp0)
    have hmul : es.length * te.size + src.length * te.size ≤ vs.size := by
     rw [g3,← Nat.add_mul]
     exact Nat.mul_le_mul_right _ hfit
    obtain ⟨w',q1,q2,q3,vs',q4,q5,q6⟩ := uz (P := P) (ι β).b (es.length * te.size) elem fz cs.toList 0 w vs g1 g2 (by simp [f2]; omega) hone
    have hrun := run_append_fits (w' := w') hts htd hte htx hx' tt (some ⟨(ι β).b,0,none⟩) es.length ((ι β).cap - 0) src.length vy l1 (by omega) cs f1
     (fun a ha => by cases ha; rw [add_plain,Nat.zero_add]; exact q1) (fun h => by cases h)
    refine ⟨_,w',hrun,qg ι β (ι β), ?_⟩
    have key := qa.put (hno := noO hb rfl) hi (w' := w') β (.ql te.size (es ++ src)) (ι β)
     (fun x hx => by
      rw [hb] at hx
      cases hx
      simp only [qo,Blk.sh]
      exact ⟨by simp,fun _ => ⟨by simp,fun _ => ⟨by simp,Pl.q3r _⟩⟩⟩)
     ⟨by omega,q2.2⟩ (fun b' _ hne => q3 b' (fun e => hne _ hb rfl e.symm)) (fun _ => .inr ⟨_,hb,rfl,rfl⟩) (fun hev => by
      refine ⟨vs',elem,fz,by simpa using q4,by rw [q5]; exact g2,by simp [q5,g3],hpos,by simp only [updP_same,List.length_append]; omega, ?_, ?_, ?_⟩
      ·intro e0 he0
       rcases List.mem_append.1 he0 with h | h
       ·exact g6 e0 h
       ·exact f3.1 e0 h
      ·intro i e0 j p hi' hj
       rcases hspl i e0 hi' with ⟨_,h⟩ | ⟨_,h⟩
       ·exact g7 _ e0 j p h hj
       ·exact f3.2.1 _ e0 j p h hj
      ·intro i e0 j p hi' hj
       have hj' := (List.getElem?_eq_some_iff.1 hj).1
       rw [q6]
       simp only [Nat.add_zero,Array.length_toList,f2]
       rcases hspl i e0 hi' with ⟨hlt,h⟩ | ⟨hge,h⟩
       ·obtain ⟨v0,w1,w2⟩ := g8 _ e0 j p h hj
        have hel := g6 e0 (List.mem_of_getElem? h)
        have : (i + 1) * te.size ≤ es.length * te.size := Nat.mul_le_mul_right _ hlt
        rw [Nat.succ_mul] at this
        rw [if_neg (by omega)]
        exact ⟨v0,w1,w2.mono hi hev⟩
       ·obtain ⟨v0,w1,w2⟩ := f3.2.2 _ e0 j p h hj
        have hel := f3.1 e0 (List.mem_of_getElem? h)
        have hil := (List.getElem?_eq_some_iff.1 h).1
        have e1 : i * te.size + j - es.length * te.size = (i - es.length) * te.size + j := by
         have : i = es.length + (i - es.length) := by omega
         conv => lhs; rw [this,Nat.add_mul]
         omega
        have e2 : es.length * te.size ≤ i * te.size := Nat.mul_le_mul_right _ hge
        have e3 : (i + 1) * te.size ≤ (es.length + src.length) * te.size := Nat.mul_le_mul_right _ (by omega)
        rw [Nat.succ_mul,Nat.add_mul] at e3
        rw [if_pos ⟨by omega,by omega⟩,e1]
        exact ⟨v0,by simpa using w1,w2.mono hi hev⟩)
    refine ⟨key.1,key.2, ?_,Nat.le_refl _,zu hnx (Nat.le_refl _) (hnx β _ hb)⟩
    refine .row β _ 0 _ _ _ rfl hg (fun _ => ⟨_,_,_,rfl⟩) (fun _ _ _ e => by cases e; exact Nat.le_refl _) fun _ _ _ e _ => ?_
    cases e
    refine ⟨by simp, ?_⟩
    simp only [Bool.false_eq_true,if_false,List.length_append]
    exact ⟨⟨(ι β).b,0,none⟩,by simp,rfl,by simp,fun _ => by simp⟩
   ·
    have hw : (qz w).heap = w.heap := rfl
    have hi' := hi.zw hw ⟨rfl,rfl⟩
    have hself : bu (.row β ver 0 es.length) H = some (te.size,es) := by
     simp [bu,hb,hver]
    obtain ⟨old,k1,k2,k3⟩ := (q21 (P := P) hi' (hxx.zw hw ⟨rfl,rfl⟩ hi) hself).2
    obtain ⟨new,m1,m2,m3⟩ := (q21 (P := P) hi' (hy.zw hw ⟨rfl,rfl⟩ hi) hsrc).2
    obtain ⟨nc,rest,r1,r2,r3⟩ := q3b (w := w) hts htd hte htx hx' tt (some ⟨(ι β).b,ao,none⟩) es.length ((ι β).cap - 0) src.length vy l1 (by omega) hroom old new k1 m1
    have hrow := ja.append (rest := rest) k3 m3 (by rw [k2])
    have hrow' := hrow.mono (w' := w) (H' := H) (ι' := ι) (Im' := Im) hi' (Evo.zw (w := qz w) (w' := w) rfl ⟨rfl,rfl⟩)
    refine ⟨_,_,r3,qg ι β ⟨w.heap.size,nc,[]⟩, ?_⟩
    have key := qa.put (hno := noO hb rfl) hi (w' := { qz w with heap := w.heap.push (.cells (old ++ new ++ rest) e) }) β (.ql te.size (es ++ src)) ⟨w.heap.size,nc,[]⟩
     (fun x hx => by
      rw [hb] at hx
      cases hx
      simp only [qo,Blk.sh,List.length_append]
      refine ⟨by omega,fun h => ?_⟩
      have : (ι β).cap < es.length := by omega
      omega)
     ⟨by simp,rfl,rfl⟩ (fun b' hb' _ => by simp [Array.getElem?_push,Nat.ne_of_lt hb']) (fun _ => .inl (Nat.le_refl _)) (fun he => by
      obtain ⟨p1,p2,p3⟩ := hrow'.mono hi he
      refine ⟨old ++ new ++ rest,e,(0,0),by simp,jo _, ?_,hpos,by simp only [updP_same,List.length_append]; omega,p1,p2,p3⟩
      simp only [updP_same,Array.size_append,k2,m2,r2,← Nat.add_mul]
      congr 1
      omega)
    refine ⟨key.1,key.2, ?_,Nat.le_refl _,zu hnx (Nat.le_refl _) (hnx β _ hb)⟩
    refine .row β _ 0 _ _ _ rfl hg (fun _ => ⟨_,_,_,rfl⟩) (fun _ _ _ e => by cases e; exact Nat.le_refl _) fun _ _ _ e _ => ?_
    cases e
    refine ⟨by simp, ?_⟩
    simp only [Bool.false_eq_true,if_false,List.length_append]
    exact ⟨⟨w.heap.size,0,none⟩,by simp,rfl,by simp,fun _ => by simp⟩
  ·cases hr
 ·cases hr
theorem zt2 {ts tx e : TypeId} {ti te tix : TI} (hts : qb P ts ti) (htd : ti.td = .slice e) (hte : qb P e te) (htx : qb P tx tix)
  (hx' : (∃ e',tix.td = .slice e') ∨ tix.td = .string) (tt : TypeId) (hi : qa w H ι Im) {nx : Nat} {X : Nat → Prop} (hnx : Bd X H nx)
  {x y : AV} {vx vy : Value} (hx : RA w H ι Im x vx) (hy : RA w H ι Im y vy) {r : Eff} (hr : jk te x y H nx = some r) (hX : ∀ γ,X γ → r.2.2 ≤ γ) :
  ∃ u w',(Builtin.append_ #[ts,tx] tt #[vx,vy]).run P w = .ok u w' ∧ Did X w H ι Im nx r u w' := by
 unfold jk at hr
 split at hr
 ·exact qrn hts htd hte htx hx' tt hi hnx hx hy hr hX
 rename_i xsz src hsrc
 split at hr
 rotate_left
 ·cases hr
 rename_i hc
 obtain ⟨hsz,hpos⟩ := hc
 obtain ⟨l1,l2⟩ := q05 (P := P) hi hy hsrc
 obtain ⟨cs,f1,f2,f3⟩ := l2 te.size hsz
 have none0 : ∀ (base : Option Addr),RA w H ι Im x (.slice base 0 0) → src = [] →
   ∃ u w',(Builtin.append_ #[ts,tx] tt #[.slice base 0 0,vy]).run P w = .ok u w' ∧ Did X w H ι Im nx (x,[],nx) u w' := by
  intro base hxv hs
  subst hs
  refine ⟨_,w,run_append_fits hts htd hte htx hx' tt base 0 0 0 vy l1 (Nat.le_refl _) cs f1 w (fun a ha => ?_) (fun _ => rfl),Did.pure hi hnx hxv⟩
  have : cs.toList = [] := by
   have : cs.size = 0 := by simpa using f2
   simpa using this
  rw [this]
  rfl
 have fresh : ∀ (base : Option Addr),RA w H ι Im x (.slice base 0 0) →
   jr te x src nx nx (nx + 1) = some r →
   ∃ u w',(Builtin.append_ #[ts,tx] tt #[.slice base 0 0,vy]).run P w = .ok u w' ∧ Did X w H ι Im nx r u w' := by
  intro base hxv hr
  unfold jr at hr
  split at hr
  ·cases hr
   exact none0 base hxv rfl
  ·split at hr <;> cases hr
   rename_i hroom
   obtain ⟨nc,w',cs',g1,g2,g3,g4,g5⟩ := q78 hts htd hte htx hx' tt hi hy hsrc hsz (by simp) hroom base
   exact ⟨_,w',g5,q5q hi hnx (bf hX) te.size _ cs' e (0,0) nc w' g2.1 g2.2 (jo _) hpos g3 g1 g4⟩
 split at hr
 ·cases hx with
  | pv _ _ h => cases h with
   | nilsl => exact fresh none (.pv _ _ (.nilsl _)) hr
 ·cases hx with
  | zsl a => exact fresh _ (.zsl a) hr
 ·rename_i β ver off n
  split at hr
  ·rename_i sz es hb
   split at hr
   rotate_left
   ·cases hr
   rename_i hc
   obtain ⟨hver,hoff,hn⟩ := hc
   subst hoff hn
   have hxx := hx
   cases hx with
   | row _ _ _ _ _ b ho hb' hk hv hh =>
   rw [hb] at hb'
   cases hb'
   obtain ⟨h1,h2⟩ := hh _ _ _ rfl hver
   simp only [if_true] at h2
   subst h2
   have hes : es = [] := hi.blk β _ hb
   subst hes
   unfold jr at hr
   split at hr
   ·cases hr
    exact none0 none hxx rfl
   ·rename_i a0 l0
    split at hr <;> cases hr
    rename_i hroom
    obtain ⟨nc,w',cs',g1,g2,g3,g4,g5⟩ := q78 hts htd hte htx hx' tt hi hy hsrc hsz (by simp) hroom none
    refine ⟨_,w',g5,qg ι β ⟨w.heap.size,nc,[]⟩, ?_⟩
    have key := qa.put (hno := noO hb rfl) hi (w' := w') β (.row false te.size (a0 :: l0)) ⟨w.heap.size,nc,[]⟩ (fun x hx => by rw [hb] at hx; cases hx; simp [qo,Blk.sh,Pl.same])
     ⟨by rw [g2.1]; simp,g2.2⟩ (fun b' hb' _ => by rw [g2.1]; simp [Array.getElem?_push,Nat.ne_of_lt hb']) (fun _ => .inl (Nat.le_refl _)) (fun he => by
      have hk : ∀ b,Im b → w'.heap[b]? = w.heap[b]? := fun b hb => he.kept hi b hb
      obtain ⟨k1,k2,k3⟩ := g4.mono he.im hk
      exact ⟨cs',e,(0,0),by simp [g2],jo _,by simp [g3],hpos,by simpa using g1,k1,k2,k3⟩)
    refine ⟨key.1,key.2, ?_,Nat.le_refl _,zu hnx (Nat.le_refl _) (hnx β _ hb)⟩
    have hg : (qf [(β,Blk.row false te.size (a0 :: l0))] H).get β = some (.row false te.size (a0 :: l0)) := by simp [qf,Heap.get_put]
    refine .row β _ 0 _ _ _ rfl hg (fun _ => ⟨_,_,_,rfl⟩) (fun _ _ _ e => by cases e; exact Nat.le_refl _) fun _ _ _ e _ => ?_
    cases e
    refine ⟨by simp, ?_⟩
    simp only [Bool.false_eq_true,if_false]
    exact ⟨⟨w.heap.size,0,none⟩,by simp,rfl,by simp,fun _ => by simp⟩
  ·rename_i sz es hb
   split at hr
   rotate_left
   ·cases hr
   rename_i hc
   obtain ⟨hver,hszz,hoff,hroom⟩ := hc
   subst hoff hszz
   have hr' : r = (.row β (es.take n ++ src ++ es.drop (n + src.length)).length 0 (n + src.length),[(β,.row false te.size (es.take n ++ src ++ es.drop (n + src.length)))],nx) := by
    split at hr <;> cases hr
    ·rename_i hn
     rw [qzt es src hn,hn]
     simp
    ·rfl
   subst hr'
   clear hr
   cases hx with
   | row _ _ _ _ _ b ho hb' hk hv hh =>
   rw [hb] at hb'
   cases hb'
   obtain ⟨h1,h2⟩ := hh _ _ _ rfl hver
   simp only [Bool.false_eq_true,if_false] at h2
   obtain ⟨a,rfl,ha1,ha2,ha3⟩ := h2
   obtain ⟨ab,ao,asp⟩ := a
   simp only at ha1 ha2 ha3
   subst ha1 ha2
   obtain ⟨vs,elem,fz,g1,g2,g3,g4,g5,g6,g7,g8⟩ := hi.row hb
   have hes' : (es.take n ++ src ++ es.drop (n + src.length)).length = max es.length (n + src.length) := by
    simp; omega
   by_cases hfit : n + src.length ≤ (ι β).cap
   ·
    have hao : src ≠ [] → ao = 0 := fun hne => by
     have := List.length_pos_iff.2 hne
     have := ha3 (by omega)
     omega
    have hone : ∀ x ∈ cs.toList,zm x = true := by
     intro x hx
     obtain ⟨m,hm⟩ := List.getElem?_of_mem hx
     have hml : m < src.length * te.size := by
      have := (List.getElem?_eq_some_iff.1 hm).1
      simp at this
      omega
     have hdiv : m / te.size < src.length := Nat.div_lt_of_lt_mul (by rwa [Nat.mul_comm])
     have hmod : m % te.size < te.size := Nat.mod_lt _ hpos
     obtain ⟨e0,he0⟩ : ∃ e0,src[m / te.size]? = some e0 := ⟨src[m / te.size],by simp⟩
     have hel := f3.1 e0 (List.mem_of_getElem? he0)
     obtain ⟨p0,hp0⟩ : ∃ p0,e0[m % te.size]? = some p0 := ⟨e0[m % te.size]'(by omega),by simp⟩
     obtain ⟨v0,q1,q2⟩ := f3.2.2 _ e0 _ p0 he0 hp0
     have : m / te.size * te.size + m % te.size = m := by rw [Nat.mul_comm]; exact Nat.div_add_mod m te.size
     simp only [this] at q1
     have : x = v0 := by
      have h0 : cs[m]? = some x := by simpa using hm
      rw [h0] at q1
      exact Option.some.inj q1
     subst this
     exact q2.zm (f3.2.1 _ e0 _ p0 he0 hp0)
    have hmul : n * te.size + src.length * te.size ≤ vs.size := by
     rw [g3,← Nat.add_mul]
     exact Nat.mul_le_mul_right _ hfit
    have hst : ∃ w',(storeCells ⟨(ι β).b,ao + n * te.size,none⟩ cs.toList).run P w = Result.ok () w' ∧ (w'.heap.size = w.heap.size ∧ w'.os = w.os ∧ w'.output = w.output) ∧ (∀ b',b' ≠ (ι β).b → w'.heap[b']? = w.heap[b']?) ∧
      ∃ vs' : Array Value,w'.heap[(ι β).b]? = some (.cells vs' elem fz) ∧ vs'.size = vs.size ∧ ∀ k,vs'[k]? = if n * te.size ≤ k ∧ k < n * te.size + cs.size then cs[k - n * te.size]? else vs[k]? := by
     by_cases hs : src = []
     ·have hcs0 : cs.size = 0 := by rw [f2,hs]; simp
      have hcl : cs.toList = [] := by simpa using hcs0
      refine ⟨w,by rw [hcl]; rfl,⟨rfl,rfl,rfl⟩,fun _ _ => rfl,vs,g1,rfl,fun k => ?_⟩
      rw [if_neg (by omega)]
     ·have := hao hs
      subst this
      obtain ⟨w',q1,q2,q3,vs',q4,q5,q6⟩ := uz (P := P) (ι β).b (n * te.size) elem fz cs.toList 0 w vs g1 g2 (by simp [f2]; omega) hone
      refine ⟨w',by simpa using q1,q2,q3,vs',q4,q5,fun k => ?_⟩
      rw [q6 k]
      simp
    obtain ⟨w',q1,q2,q3,vs',q4,q5,q6⟩ := hst
    have hrun := run_append_fits (w' := w') hts htd hte htx hx' tt (some ⟨(ι β).b,ao,none⟩) n ((ι β).cap - 0) src.length vy l1 (by omega) cs f1
     (fun a ha => by cases ha; rw [add_plain]; exact q1) (fun h => by cases h)
    refine ⟨_,w',hrun,qg ι β (ι β), ?_⟩
    have key := qa.put (hno := noO hb rfl) hi (w' := w') β (.row false te.size (es.take n ++ src ++ es.drop (n + src.length))) (ι β)
     (fun x hx => by
      rw [hb] at hx
      cases hx
      simp only [qo,Blk.sh]
      exact ⟨by omega,fun _ => ⟨by simp,fun _ => ⟨by simp,Pl.q3r _⟩⟩⟩)
     ⟨by omega,q2.2⟩ (fun b' _ hne => q3 b' (fun e => hne _ hb rfl e.symm)) (fun _ => .inr ⟨_,hb,rfl,rfl⟩) (fun hev => by
      have hw : ∀ b,Im b → w'.heap[b]? = w.heap[b]? := fun b hb => hev.kept hi b hb
      have hget : ∀ (i : Nat) e0,(es.take n ++ src ++ es.drop (n + src.length))[i]? = some e0 →
        (n ≤ i ∧ i < n + src.length ∧ src[i - n]? = some e0) ∨ (¬ (n ≤ i ∧ i < n + src.length) ∧ es[i]? = some e0) := by
       intro i e0 h
       by_cases hn : n + src.length ≤ es.length
       ·rw [q0d es src n i hn] at h
        split at h
        ·rename_i hc
         exact .inl ⟨hc.1,hc.2,h⟩
        ·rename_i hc
         exact .inr ⟨hc,h⟩
       ·rw [List.drop_eq_nil_of_le (by omega),List.append_nil,List.getElem?_append] at h
        have htl : (es.take n).length = n := by simp; omega
        rw [htl] at h
        split at h
        ·rename_i hc
         rw [List.getElem?_take_of_lt hc] at h
         exact .inr ⟨by omega,h⟩
        ·rename_i hc
         have := (List.getElem?_eq_some_iff.1 h).1
         exact .inl ⟨by omega,by omega,h⟩
      refine ⟨vs',elem,fz,by simpa using q4,by rw [q5]; exact g2,by simp [q5,g3],hpos,by simp only [updP_same]; omega, ?_, ?_, ?_⟩
      ·intro e0 he0
       obtain ⟨i,hi'⟩ := List.getElem?_of_mem he0
       rcases hget i e0 hi' with ⟨_,_,h⟩ | ⟨_,h⟩
       ·exact f3.1 e0 (List.mem_of_getElem? h)
       ·exact g6 e0 (List.mem_of_getElem? h)
      ·intro i e0 j p hi' hj
       rcases hget i e0 hi' with ⟨_,_,h⟩ | ⟨_,h⟩
       ·exact f3.2.1 _ e0 j p h hj
       ·exact g7 _ e0 j p h hj
      ·intro i e0 j p hi' hj
       have hj' := (List.getElem?_eq_some_iff.1 hj).1
       rw [q6]
       rcases hget i e0 hi' with ⟨k1,k2,h⟩ | ⟨k1,h⟩
       ·obtain ⟨v0,w1,w2⟩ := f3.2.2 _ e0 j p h hj
        have hel := f3.1 e0 (List.mem_of_getElem? h)
        have e1 : i * te.size + j - n * te.size = (i - n) * te.size + j := by
         have : i = n + (i - n) := by omega
         conv => lhs; rw [this,Nat.add_mul]
         omega
        have e2 : n * te.size ≤ i * te.size := Nat.mul_le_mul_right _ k1
        have e3 : (i + 1) * te.size ≤ (n + src.length) * te.size := Nat.mul_le_mul_right _ k2
        rw [Nat.succ_mul,Nat.add_mul] at e3
        rw [if_pos ⟨by omega,by rw [f2]; omega⟩,e1]
        exact ⟨v0,w1,w2.mono hev.im hw⟩
       ·obtain ⟨v0,w1,w2⟩ := g8 _ e0 j p h hj
        have hel := g6 e0 (List.mem_of_getElem? h)
        have hout : ¬ (n * te.size ≤ i * te.size + j ∧ i * te.size + j < n * te.size + cs.size) := by
         rw [f2]
         by_cases hlt : i < n
         ·have : (i + 1) * te.size ≤ n * te.size := Nat.mul_le_mul_right _ hlt
          rw [Nat.succ_mul] at this
          omega
         ·have : (n + src.length) * te.size ≤ i * te.size := Nat.mul_le_mul_right _ (by omega)
          rw [Nat.add_mul] at this
          omega
        rw [if_neg hout]
        exact ⟨v0,w1,w2.mono hev.im hw⟩)
    refine ⟨key.1,key.2, ?_,Nat.le_refl _,zu hnx (Nat.le_refl _) (hnx β _ hb)⟩
    have hg : (qf [(β,Blk.row false te.size (es.take n ++ src ++ es.drop (n + src.length)))] H).get β = some (.row false te.size (es.take n ++ src ++ es.drop (n + src.length))) := by simp [qf,Heap.get_put]
    refine .row β _ 0 _ _ _ rfl hg (fun _ => ⟨_,_,_,rfl⟩) (fun _ _ _ e => by cases e; exact Nat.le_refl _) fun _ _ _ e _ => ?_
    cases e
    refine ⟨by omega, ?_⟩
    simp only [Bool.false_eq_true,if_false]
    refine ⟨⟨(ι β).b,ao,none⟩,by simp,rfl,by simp,fun hc => ?_⟩
    simp only [updP_same] at hc
    have := ha3 hc
    simpa using this
   ·
    have hoff : es.drop (n + src.length) = [] := List.drop_eq_nil_of_le (by omega)
    have hw : (qz w).heap = w.heap := rfl
    have hself : j3 (.row β ver 0 n) H = some (te.size,es.take n) := by
     simp [j3,hb,hver]
    have hxx : RA w H ι Im (.row β ver 0 n) (.slice (some ⟨(ι β).b,ao,none⟩) n ((ι β).cap - 0)) :=
     .row β ver 0 n _ _ rfl hb hk hv hh
    have htl : (es.take n).length = n := by simp; omega
    obtain ⟨old,k1,k2,k3⟩ := (q05 (P := P) (hi.zw hw ⟨rfl,rfl⟩) (hxx.zw hw ⟨rfl,rfl⟩ hi) hself).2 te.size (.inl rfl)
    obtain ⟨new,m1,m2,m3⟩ := (q05 (P := P) (hi.zw hw ⟨rfl,rfl⟩) (hy.zw hw ⟨rfl,rfl⟩ hi) hsrc).2 te.size hsz
    rw [htl] at k1 k2
    obtain ⟨nc,rest,r1,r2,r3⟩ := q3b (w := w) hts htd hte htx hx' tt (some ⟨(ι β).b,ao,none⟩) n ((ι β).cap - 0) src.length vy l1 (by omega) hroom old new k1 m1
    have hrow := zk.append (rest := rest) k3 m3 (by rw [k2,htl])
    have hrow' := hrow.mono (w' := w) (Im' := Im) (fun _ h => h) (fun b _ => by rw [hw])
    have hes2 : es.take n ++ src ++ es.drop (n + src.length) = es.take n ++ src := by rw [hoff]; simp
    rw [hes2] at hes' ⊢
    refine ⟨_,_,r3,qg ι β ⟨w.heap.size,nc,[]⟩, ?_⟩
    have hlen2 : (es.take n ++ src).length = n + src.length := by simp; omega
    have key := qa.put (hno := noO hb rfl) hi (w' := { qz w with heap := w.heap.push (.cells (old ++ new ++ rest) e) }) β (.row false te.size (es.take n ++ src)) ⟨w.heap.size,nc,[]⟩
     (fun x hx => by
      rw [hb] at hx
      cases hx
      simp only [qo,Blk.sh]
      exact ⟨by omega,fun h => by omega⟩)
     ⟨by simp,rfl,rfl⟩ (fun b' hb' _ => by simp [Array.getElem?_push,Nat.ne_of_lt hb']) (fun _ => .inl (Nat.le_refl _)) (fun he => by
      have hk : ∀ b,Im b → _ := fun b hb => he.kept hi b hb
      obtain ⟨p1,p2,p3⟩ := hrow'.mono he.im hk
      refine ⟨old ++ new ++ rest,e,(0,0),by simp,jo _, ?_,hpos,by simp only [updP_same]; omega,p1,p2,p3⟩
      simp only [updP_same,Array.size_append,k2,m2,r2,← Nat.add_mul]
      congr 1
      omega)
    refine ⟨key.1,key.2, ?_,Nat.le_refl _,zu hnx (Nat.le_refl _) (hnx β _ hb)⟩
    have hg : (qf [(β,Blk.row false te.size (es.take n ++ src))] H).get β = some (.row false te.size (es.take n ++ src)) := by simp [qf,Heap.get_put]
    refine .row β _ 0 _ _ _ rfl hg (fun _ => ⟨_,_,_,rfl⟩) (fun _ _ _ e => by cases e; exact Nat.le_refl _) fun _ _ _ e _ => ?_
    cases e
    refine ⟨by omega, ?_⟩
    simp only [Bool.false_eq_true,if_false]
    exact ⟨⟨w.heap.size,0,none⟩,by simp,rfl,by simp,fun _ => by simp⟩
  ·cases hr
 ·cases hr
end
end Go.Gm
