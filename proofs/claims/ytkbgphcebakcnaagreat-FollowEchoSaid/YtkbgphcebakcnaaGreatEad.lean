/-
  The machine, part d.
-/
import Derived.Test.YtkbgphcebakcnaaGreatEac
set_option linter.unusedSimpArgs false
set_option linter.unusedVariables false
namespace Go.Gm
open Go
abbrev Bytes := List UInt8
structure Sl (α : Type) where
 nil : Bool
 l : List α
 deriving Inhabited,DecidableEq
def zn (s : Bytes) : List PV := [.str s]
def qh (n : Int) : List PV := [.int .i64 n]
def kE (k : IntKind) (n : Int) : List PV := [.int k n]
def xm (b : Bool) : List PV := [.bool b]
def qc8 (b : UInt8) : List PV := [.int .u8 b.toNat]
def slE {α : Type} (k : Nat) (e : α → List PV) (s : Sl α) : List PV := [.sl s.nil (szc k s.l) (List.map e s.l)]
def xq {α : Type} (e : α → List PV) (s : α × α) : List PV := e s.1 ++ e s.2
abbrev Dum : Prop := ∀ x : Bool,(x && true) = x
def q9 {α : Type} (l : List α) (i : Int) : Option α := if 0 ≤ i then l[i.toNat]? else none
def zy {α : Type} (l : List α) (lo hi : Int) : Option (List α) := if (0 ≤ lo ∧ 0 ≤ hi) ∧ (lo.toNat ≤ hi.toNat ∧ hi.toNat ≤ l.length) then some ((l.take hi.toNat).drop lo.toNat) else none
def jv {α : Type} (l : List α) (lo : Int) : Option (List α) := if 0 ≤ lo ∧ lo.toNat ≤ l.length then some (l.drop lo.toNat) else none
def ku {α : Type} (l : List α) (hi : Int) : Option (List α) := if 0 ≤ hi ∧ hi.toNat ≤ l.length then some (l.take hi.toNat) else none
def u8 (n : Int) : UInt8 := UInt8.ofNat n.toNat
section
variable {α : Type} {l : List α} {i lo hi : Int} {x : α} {r : List α}
theorem qd2 (h : q9 l i = some x) (k : IntKind) : zg (.pv (.int k i)) = some i.toNat := by
 unfold q9 at h; split at h
 ·rename_i h0; simp [zg,h0]
 ·cases h
theorem qcx {i : Int} {n : Nat} (h : (i == (n : Int)) = true) : i.toNat = n := by simp at h; omega
theorem qcc {i : Int} {n : Nat} (h : (i == (n : Int)) = true) (k : IntKind) : zg (.pv (.int k i)) = some n := by
 have : i = n := by simpa using h
 subst this
 simp [zg]
theorem qs0 {α : Type} (enc : α → List PV) (X D : List α) : (List.take D.length (List.map enc X)).length = (X.take D.length).length := by simp
theorem qls {α : Type} (enc : α → List PV) (X D : List α) : List.take D.length (List.map enc X) ++ List.drop (X.take D.length).length (List.map enc D) = List.map enc (X.take D.length ++ D.drop (X.take D.length).length) := by simp [List.map_take,List.map_drop]
theorem qri {α : Type} (X D : List α) : (X.take D.length ++ D.drop (X.take D.length).length).length = D.length := by simp; omega
theorem q1j (k : IntKind) {n : Int} (h : 0 ≤ n) : zg (.pv (.int k n)) = some n.toNat := by simp [zg,h]
theorem qau (h : q9 l i = some x) : l[i.toNat]? = some x := by
 unfold q9 at h; split at h
 ·exact h
 ·cases h
theorem qcv {β : Type} (e : α → β) (h : q9 l i = some x) : (List.map e l)[i.toNat]? = some (e x) := by simp [qau h]
theorem ziq (h : q9 l i = some x) : l.isEmpty = false := by
 have := qau h; cases l <;> simp_all
theorem qhm (h : q9 l i = some x) (k : Nat) : szc k l = k := by
 have := qau h; cases l <;> simp_all [szc]
theorem zib (h : q9 l i = some x) (k : Nat) : (szc k l = k) = True := by simp [qhm h]
theorem qht (h : q9 l i = some x) : (i.toNat < l.length) = True := by
 have := qau h; simp only [eq_iff_iff,iff_true]; exact (List.getElem?_eq_some_iff.1 this).1
theorem qhv (h : zy l lo hi = some r) (k : IntKind) : zg (.pv (.int k lo)) = some lo.toNat := by
 unfold zy at h; split at h
 ·rename_i h0; simp [zg,h0.1.1]
 ·cases h
theorem qfh (h : zy l lo hi = some r) (k : IntKind) : zg (.pv (.int k hi)) = some hi.toNat := by
 unfold zy at h; split at h
 ·rename_i h0; simp [zg,h0.1.2]
 ·cases h
theorem qkd (h : zy l lo hi = some r) : (lo.toNat ≤ hi.toNat) = True := by
 unfold zy at h; split at h
 ·rename_i h0; simp [h0.2.1]
 ·cases h
theorem qe7 (h : zy l lo hi = some r) : (hi.toNat ≤ l.length) = True := by
 unfold zy at h; split at h
 ·rename_i h0; simp [h0.2.2]
 ·cases h
theorem qb7 (h : zy l lo hi = some r) : (l.take hi.toNat).drop lo.toNat = r := by
 unfold zy at h; split at h <;> simp_all
theorem zp0 (h : jv l lo = some r) (k : IntKind) : zg (.pv (.int k lo)) = some lo.toNat := by
 unfold jv at h; split at h
 ·rename_i h0; simp [zg,h0.1]
 ·cases h
theorem qvz (h : jv l lo = some r) : (lo.toNat ≤ l.length) = True := by
 unfold jv at h; split at h
 ·rename_i h0; simp [h0.2]
 ·cases h
theorem qt5 (h : jv l lo = some r) : l.drop lo.toNat = r := by
 unfold jv at h; split at h <;> simp_all
theorem zg3 (h : ku l hi = some r) (k : IntKind) : zg (.pv (.int k hi)) = some hi.toNat := by
 unfold ku at h; split at h
 ·rename_i h0; simp [zg,h0.1]
 ·cases h
theorem zjf (h : ku l hi = some r) : (hi.toNat ≤ l.length) = True := by
 unfold ku at h; split at h
 ·rename_i h0; simp [h0.2]
 ·cases h
theorem zi5 (h : ku l hi = some r) : l.take hi.toNat = r := by
 unfold ku at h; split at h <;> simp_all
theorem zhm {β : Type} (e : α → β) (h : zy l lo hi = some r) : ((List.map e l).take hi.toNat).drop lo.toNat = List.map e r := by rw [← List.map_take,← List.map_drop,qb7 h]
theorem qrk (h : zy l lo hi = some r) (k : Nat) : szc (szc k l) r = szc k r := by
 have := qb7 h
 cases r with
 | nil => rfl
 | cons => cases l <;> simp_all [szc]
theorem qtv {β : Type} (k : Nat) (e : α → β) (l : List α) : szc k (List.map e l) = szc k l := by cases l <;> rfl
theorem ze4 (k : Nat) (l : List α) : szc (szc k l) l = szc k l := by cases l <;> rfl
theorem qw (k : Nat) : szc k ([] : List α) = 0 := rfl
theorem qeo (k : Nat) (x : α) (l : List α) : szc k (x :: l) = k := rfl
theorem qja (k : Nat) (l : List α) (x : α) (r : List α) : szc k (l ++ x :: r) = k := by cases l <;> rfl
theorem qev (k : Nat) (l : List α) (i : Nat) (x : α) : szc k (l.set i x) = szc k l := by cases l <;> cases i <;> rfl
theorem zfc {β : Type} (e : α → β) (l : List α) : (List.map e l).isEmpty = l.isEmpty := by cases l <;> rfl
theorem qg7 (l : List α) (x : α) (r : List α) : (l ++ x :: r).isEmpty = false := by cases l <;> rfl
theorem qel (l : List α) (i : Nat) (x : α) : (l.set i x).isEmpty = l.isEmpty := by cases l <;> cases i <;> rfl
theorem qii (x : α) (l : List α) : (x :: l).isEmpty = false := rfl
theorem qin : ([] : List α).isEmpty = true := rfl
theorem q4c {β : Type} (k : Nat) (e : α → β) (l : List α) : (szc k l = k ∨ List.map e l = []) = True := by cases l <;> simp [szc]
theorem take_len {β : Type} (e : α → β) (l : List α) : (List.map e l).take l.length = List.map e l := by rw [← List.map_take,List.take_length]
theorem map_set {β : Type} (e : α → β) (l : List α) (i : Nat) (x : α) : (List.map e l).set i (e x) = List.map e (l.set i x) := by simp [List.map_set]
theorem zfx (s : Bytes) : List.map (fun b => [PV.int .u8 (b.toNat : Int)]) s = List.map qc8 s := rfl
theorem qx (b : UInt8) : u8 (b.toNat : Int) = b := by simp [u8]
theorem qy (n : Int) : ((u8 (IntKind.u8.wrap n)).toNat : Int) = IntKind.u8.wrap n := by
 have h : 0 ≤ IntKind.u8.wrap n ∧ IntKind.u8.wrap n < 256 := by
  simp only [IntKind.wrap,IntKind.bits,IntKind.signed]
  constructor
  ·simp; omega
  ·simp; omega
 simp only [u8,UInt8.toNat_ofNat']
 omega
theorem zdp : List.range 1 = [0] := rfl
theorem qng : List.range 2 = [0,1] := rfl
theorem qtu : List.range 3 = [0,1,2] := rfl
theorem z6h : List.range 4 = [0,1,2,3] := rfl
theorem ql7 : List.range 5 = [0,1,2,3,4] := rfl
theorem qla : List.range 6 = [0,1,2,3,4,5] := rfl
def q1k (te : TI) (β L n : Nat) (src : List (List PV)) (nx : Nat) : Option Blk → Option Eff
 | some (.row true _ es) => if L = es.length ∧ n = 0 then jl te (.row β L 0 n) src β nx nx else none
 | some (.row false sz es) =>
  if L = es.length ∧ sz = te.size ∧ qj (n + src.length) te.bytes = true then
   if n = es.length then some (.row β (es ++ src).length 0 (es ++ src).length,[(β,.row false te.size (es ++ src))],nx)
   else some (.row β (es.take n ++ src ++ es.drop (n + src.length)).length 0 (n + src.length),[(β,.row false te.size (es.take n ++ src ++ es.drop (n + src.length)))],nx)
  else none
 | _ => none
theorem zlb (te : TI) (β L n nx sz : Nat) (es src : List (List PV)) : q1k te β L n src nx (some (.row false sz es)) =
  if L = es.length ∧ sz = te.size ∧ qj (n + src.length) te.bytes = true then
   if n = es.length then some (.row β (es ++ src).length 0 (es ++ src).length,[(β,.row false te.size (es ++ src))],nx)
   else some (.row β (es.take n ++ src ++ es.drop (n + src.length)).length 0 (n + src.length),[(β,.row false te.size (es.take n ++ src ++ es.drop (n + src.length)))],nx)
  else none := rfl
theorem zp5 (te : TI) (β L n nx sz : Nat) (es src : List (List PV)) : q1k te β L n src nx (some (.row true sz es)) = if L = es.length ∧ n = 0 then jl te (.row β L 0 n) src β nx nx else none := rfl
def qab (te : TI) (β L n : Nat) (H : Heap) (nx : Nat) (d : Option Eff) : Option (Nat × List (List PV)) → Option Eff
 | none => d
 | some (xsz,src) => if (xsz = te.size ∨ src = []) ∧ 0 < te.size then q1k te β L n src nx (H.get β) else none
theorem zke (te : TI) (β L n : Nat) (x : AV) (H : Heap) (nx : Nat) : vg te (.row β L 0 n) x H nx = qab te β L n H nx (yz te (.row β L 0 n) x H nx) (jc x H) := by
 unfold vg qab
 cases jc x H with
 | none => rfl
 | some p =>
  obtain ⟨xsz,src⟩ := p
  simp only
  split
  ·unfold q1k
   cases H.get β with
   | none => rfl
   | some b =>
    cases b with
    | row isnil sz es => cases isnil <;> simp
    | _ => rfl
  ·rfl
theorem qm3 (te : TI) (sz : Nat) (es : List (List PV)) (x : AV) (H : Heap) (nx : Nat) : vg te (.pv (.sl true sz es)) x H nx =
  match jc x H with
  | none => yz te (.pv (.sl true sz es)) x H nx
  | some (xsz,src) => if (xsz = te.size ∨ src = []) ∧ 0 < te.size then jl te (.pv (.sl true sz es)) src nx nx (nx + 1) else none := rfl
theorem zs1 (te : TI) (x : AV) (H : Heap) (nx : Nat) : vg te .zsl x H nx =
  match jc x H with
  | none => yz te .zsl x H nx
  | some (xsz,src) => if (xsz = te.size ∨ src = []) ∧ 0 < te.size then jl te .zsl src nx nx (nx + 1) else none := rfl
theorem qwx (te : TI) (β k nx : Nat) (e : α → List PV) (l : List α) (c : List PV) (src : List (List PV)) (hk : k = te.size) (hr : qj (l.length + (c :: src).length) te.bytes = true) :
  q1k te β l.length l.length (c :: src) nx (some (.row l.isEmpty (szc k l) (List.map e l))) =
   some (.row β (List.map e l ++ c :: src).length 0 (List.map e l ++ c :: src).length,[(β,.row false k (List.map e l ++ c :: src))],nx) := by
 subst hk
 cases l with
 | nil =>
  have hr' : qj (src.length + 1) te.bytes = true := by simpa using hr
  simp [q1k,jl,hr']
 | cons a l =>
  have hr' : qj (l.length + 1 + (src.length + 1)) te.bytes = true := by simpa using hr
  simp [q1k,szc,hr']
end
structure ze where
 es : List (Int × Int × Nat)
 clock : Nat
 deriving Inhabited
def zx (e : Int × Int × Nat) : PV × PV × Nat := (.int .i64 e.1,.int .i64 e.2.1,e.2.2)
def yf (k : Int) : List (Int × Int × Nat) → Nat → Option (Nat × Int × Nat)
 | [],_ => none
 | (x,v,b) :: r,i => if k == x then some (i,v,b) else yf k r (i + 1)
def q3m (m : ze) (k : Int) : Bool := (yf k m.es 0).isSome
def xy (m : ze) (k : Int) : Int := match yf k m.es 0 with | some (_,v,_) => v | none => 0
def vw (m : ze) (k v : Int) : ze := match yf k m.es 0 with | some (i,_,b) => ⟨m.es.set i (k,v,b),m.clock⟩ | none => ⟨m.es ++ [(k,v,m.clock)],m.clock + 1⟩
def q4y (m : ze) (k : Int) : ze := match yf k m.es 0 with | some (i,_,_) => ⟨m.es.eraseIdx i,m.clock⟩ | none => m
theorem q8a (k : Int) : ∀ (l : List (Int × Int × Nat)) (i : Nat),findKey (.int .i64 k) (List.map zx l) i = some ((yf k l i).map fun x => (x.1,.int .i64 x.2.1,x.2.2))
 | [],i => rfl
 | (x,v,b) :: r,i => by
  simp only [List.map_cons,zx,findKey,q7e,yf,if_true]
  cases h : (k == x) with
  | true => simp
  | false => simp only [q8a k r (i + 1)]; simp
theorem qjj {α β : Type} (e : α → β) : ∀ (l : List α) (i : Nat),(List.map e l).eraseIdx i = List.map e (l.eraseIdx i)
 | [],i => by simp
 | x :: l,0 => rfl
 | x :: l,i + 1 => by simp [qjj e l i]
def q41 (te : TI) (k : PV) (ok : Bool) : Option Blk → Option AV
 | some (.map es _) => match findKey k es 0 with
  | some (some (_,v,_)) => some (if ok then .tup [.pv v,.pv (.bool true)] else .pv v)
  | some none => some (if ok then .tup [.pv (wy te),.pv (.bool false)] else .pv (wy te))
  | none => none
 | _ => none
def q8u (β : Nat) (k v : PV) : Option Blk → Option (List (Nat × Blk))
 | some (.map es clock) => match findKey k es 0 with
  | some (some (i,_,born)) => some [(β,.map (es.set i (k,v,born)) clock)]
  | some none => some [(β,.map (es ++ [(k,v,clock)]) (clock + 1))]
  | none => none
 | _ => none
def z9s (te : TI) (β : Nat) (k : PV) : Option Blk → Option (AV × List (Nat × Blk))
 | some (.map es clock) => match findKey k es 0 with
  | some (some (i,v,born)) => some (.tup [.pv v,.pv (.int .i64 born)],[(β,.map (es.set i (k,v,born)) clock)])
  | some none => some (.tup [.pv (wy te),.pv (.int .i64 clock)],[(β,.map (es ++ [(k,wy te,clock)]) (clock + 1))])
  | none => none
 | _ => none
def qpy (β : Nat) (born : Int) (v : PV) : Option Blk → Option (List (Nat × Blk))
 | some (.map es clock) => match q7i born es 0 with
  | some (i,k,b) => some [(β,.map (es.set i (k,v,b)) clock)]
  | none => none
 | _ => none
def q9q (β : Nat) (k : PV) : Option Blk → Option (List (Nat × Blk))
 | some (.map es clock) => match findKey k es 0 with
  | some (some (i,_,_)) => some [(β,.map (es.eraseIdx i) clock)]
  | some none => some [(β,.map es clock)]
  | none => none
 | _ => none
theorem zfp (tk te : TI) (β : Nat) (k : PV) (ok : Bool) (H : Heap) : q1n tk te (.map β) (.pv k) ok H = if zo tk.td k = true then q41 te k ok (H.get β) else none := by
 unfold q1n q34
 simp only
 split
 ·cases H.get β with
  | none => rfl
  | some b => cases b <;> rfl
 ·rfl
theorem qwo (tk : TI) (β : Nat) (k v : PV) (H : Heap) : bf tk (.map β) (.pv k) v H = if zo tk.td k = true then q8u β k v (H.get β) else none := by
 unfold bf
 simp only
 split
 ·cases H.get β with
  | none => rfl
  | some b => cases b <;> rfl
 ·rfl
theorem zrw (tk te : TI) (β : Nat) (k : PV) (H : Heap) : q0a tk te (.map β) (.pv k) H = if zo tk.td k = true then z9s te β k (H.get β) else none := by
 unfold q0a
 simp only
 split
 ·cases H.get β with
  | none => rfl
  | some b => cases b <;> rfl
 ·rfl
theorem ze1 (β : Nat) (kd : IntKind) (born : Int) (v : PV) (H : Heap) : p8 (.map β) (.pv (.int kd born)) v H = qpy β born v (H.get β) := by
 unfold p8
 simp only
 cases H.get β with
 | none => rfl
 | some b => cases b <;> rfl
theorem z3e (tk : TI) (β : Nat) (k : PV) (H : Heap) : tu tk (.map β) (.pv k) H = if zo tk.td k = true then q9q β k (H.get β) else none := by
 unfold tu
 simp only
 split
 ·cases H.get β with
  | none => rfl
  | some b => cases b <;> rfl
 ·rfl
section
variable (b : Bool) (β : Nat) (m : ze) (k : Int)
theorem zhq : q41 ⟨1,8,.int .i64,[.int .i64 0],b⟩ (.int .i64 k) false (some (.map (List.map zx m.es) m.clock)) = some (.pv (.int .i64 (xy m k))) := by
 simp only [q41,q8a,xy]
 cases yf k m.es 0 <;> simp [wy,TI.isAgg]
theorem qwd : q41 ⟨1,8,.int .i64,[.int .i64 0],b⟩ (.int .i64 k) true (some (.map (List.map zx m.es) m.clock)) = some (.tup [.pv (.int .i64 (xy m k)),.pv (.bool (q3m m k))]) := by
 simp only [q41,q8a,xy,q3m]
 cases yf k m.es 0 <;> simp [wy,TI.isAgg]
theorem zkb (v : Int) : q8u β (.int .i64 k) (.int .i64 v) (some (.map (List.map zx m.es) m.clock)) = some [(β,.map (List.map zx (vw m k v).es) (vw m k v).clock)] := by
 simp only [q8u,q8a,vw]
 cases yf k m.es 0 <;> simp [zx,List.map_set]
theorem zcn : q9q β (.int .i64 k) (some (.map (List.map zx m.es) m.clock)) = some [(β,.map (List.map zx (q4y m k).es) (q4y m k).clock)] := by
 simp only [q9q,q8a,q4y]
 cases h : yf k m.es 0 <;> simp [qjj]
end
def q7t (m : ze) : Option (List Int) := if qdb (m.es.map (·.1)) (m.es.map (·.2.2)) m.clock then some (xh (m.es.map (·.1))) else none
theorem qgh : ∀ l : List (Int × Int × Nat),q3f (List.map zx l) = some (l.map (·.1))
 | [] => rfl
 | x :: r => by simp [zx,q3f,qgh r]
theorem qeq : ∀ l : List (Int × Int × Nat),gu (List.map zx l) = l.map (·.2.2)
 | [] => rfl
 | x :: r => by simp [zx,gu,qeq r]
theorem qwr {m : ze} {r : List Int} (h : q7t m = some r) (fk : FuncId) :
  q8p fk [.clo fk [] [.ptr 0 0]] [(0,.box [.map 1]),(1,.map (List.map zx m.es) m.clock)] = some (.row 2 r.length 0 r.length,[(0,.box [.map 1]),(1,.map (List.map zx m.es) m.clock),(2,.row r.isEmpty (szc 1 r) (List.map qh r))]) := by
 unfold q7t at h
 split at h
 ·rename_i hf
  cases h
  simp only [q8p,qgh,qeq,hf,true_and,if_true]
  rfl
 ·cases h
theorem qy8 {α β : Type} (f : α → β) (a : α) (l : List α) : List.map f (a :: l) = f a :: List.map f l := rfl
theorem zf7 {α β : Type} (f : α → β) : List.map f ([] : List α) = [] := rfl
theorem qrb {α : Type} : ([] : List α).length = 0 := rfl
theorem z6k {α : Type} (a : α) (l : List α) : (a :: l).length = l.length + 1 := rfl
theorem z8q {α : Type} (l : List α) (x : α) : (l.length < (l ++ [x]).length) = True := by simp
theorem z7u {α β : Type} (f : α → β) (l : List α) (x : β) : (l.length < (List.map f l ++ [x]).length) = True := by simp
theorem qkl {α : Type} (l : List α) (i : Nat) (x : α) : (l.set i x).length = l.length := List.length_set
def z3s := PLift.up (And.intro @qy8 (And.intro @zf7 (And.intro @qrb (And.intro @z6k (And.intro @qw (And.intro @qeo (And.intro @qja (And.intro @qev (And.intro @qin (And.intro @qii (And.intro @qg7 (And.intro @qel (And.intro @qkl (And.intro @qx @qy))))))))))))))
theorem qca {α : Type} {P : Program} {t : TypeId} {e : α → List PV} {ok : α → Prop} {n : Nat} (h : Reads P t e ok n) : Reads P t e (fun _ => True) n := h.map (fun x => x) (fun _ _ => ⟨trivial,rfl⟩)
def q0f {α : Type} (_ : α) : Prop := True
def inI (n : Int) : Prop := -9223372036854775808 ≤ n ∧ n ≤ 9223372036854775807
def pz (s : Bytes) : Prop := s.length ≤ maxLen
def jr {α : Type} (ok : α → Prop) (s : Sl α) : Prop := (s.l.length ≤ maxLen ∧ (s.nil = true → s.l = [])) ∧ ∀ a ∈ s.l,ok a
theorem zi {n : Int} (h1 : -9223372036854775808 ≤ n) (h2 : n ≤ 9223372036854775807) : IntKind.i64.wrap n = n := IntWalk.i64_in n ⟨h1,h2⟩
theorem zef (b : Bool) : AV.cells (.pv (.bool b)) = [(.pv (.bool b))] := rfl
theorem qxz (k : IntKind) (n : Int) : AV.cells (.pv (.int k n)) = [(.pv (.int k n))] := rfl
theorem qur (l : List UInt8) : AV.cells (.pv (.str l)) = [(.pv (.str l))] := rfl
theorem qvs (a : Bool) (b : Nat) (c : List (List PV)) : AV.cells (.pv (.sl a b c)) = [(.pv (.sl a b c))] := rfl
theorem zoo : AV.cells (.pv (.nilptr)) = [(.pv (.nilptr))] := rfl
theorem qz7 : AV.cells (.pv (.nilfn)) = [(.pv (.nilfn))] := rfl
theorem znf : AV.cells (.pv (.nilmap)) = [(.pv (.nilmap))] := rfl
theorem zkq : AV.cells (.pv (.nilif)) = [(.pv (.nilif))] := rfl
theorem zh7 (f : FuncId) : AV.cells (.pv (.fn f)) = [(.pv (.fn f))] := rfl
theorem qkp (c : List PV) : AV.cells (.pv (.rp c)) = [(.pv (.rp c))] := rfl
theorem z6t (c : List PV) : AV.cells (.pv (.agg c)) = c.map .pv := rfl
theorem qom (x y : Nat) : AV.cells (.ptr x y) = [(.ptr x y)] := rfl
theorem qvr (x y z u : Nat) : AV.cells (.eptr x y z u) = [(.eptr x y z u)] := rfl
theorem qxp (c : List PV) (x : Nat) : AV.cells (.rptr c x) = [(.rptr c x)] := rfl
theorem zr0 (x y z u : Nat) : AV.cells (.row x y z u) = [(.row x y z u)] := rfl
theorem zc5 : AV.cells (.zsl) = [(.zsl)] := rfl
theorem qzr (x : Nat) : AV.cells (.map x) = [(.map x)] := rfl
theorem qqv (f : FuncId) (a b : List AV) : AV.cells (.clo f a b) = [(.clo f a b)] := rfl
theorem qv0 (l : List AV) : AV.cells (.tup l) = [(.tup l)] := rfl
theorem z0r (c : List AV) : AV.cells (.agg c) = c := rfl
abbrev v_i (n : Int) : AV := .pv (.int .i64 n)
abbrev v_b (b : Bool) : AV := .pv (.bool b)
abbrev v_s (s : Bytes) : AV := .pv (.str s)
abbrev v_g (l : List PV) : AV := .pv (.agg l)
abbrev v_l {α : Type} (k : Nat) (e : α → List PV) (s : Sl α) : AV := .pv (.sl s.nil (szc k s.l) (List.map e s.l))
abbrev v_r {α : Type} (β : Nat) (l : List α) : AV := .row β l.length 0 l.length
abbrev b_x (l : List PV) : Blk := .box (List.map .pv l)
abbrev b_r {α : Type} (k : Nat) (e : α → List PV) (l : List α) : Blk := .row l.isEmpty (szc k l) (List.map e l)
abbrev b_m (m : ze) : Blk := .map (List.map zx m.es) m.clock
theorem qwa (n : Int) : v_i n = .pv (.int .i64 n) := rfl
theorem zeb (b : Bool) : v_b b = .pv (.bool b) := rfl
theorem z7n (s : Bytes) : v_s s = .pv (.str s) := rfl
theorem qrq (l : List PV) : v_g l = .pv (.agg l) := rfl
theorem z6e {α : Type} (k : Nat) (e : α → List PV) (s : Sl α) : v_l k e s = .pv (.sl s.nil (szc k s.l) (List.map e s.l)) := rfl
theorem ze8 {α : Type} (β : Nat) (l : List α) : v_r β l = .row β l.length 0 l.length := rfl
theorem z6g (l : List PV) : b_x l = .box (List.map .pv l) := rfl
theorem zgx {α : Type} (k : Nat) (e : α → List PV) (l : List α) : b_r k e l = .row l.isEmpty (szc k l) (List.map e l) := rfl
theorem qwf (m : ze) : b_m m = .map (List.map zx m.es) m.clock := rfl
theorem qnx (b : UInt8) : qc8 b = [.int .u8 b.toNat] := rfl
theorem z4v (n : Int) : qh n = [.int .i64 n] := rfl
theorem z1b (s : Bytes) : zn s = [.str s] := rfl
theorem zcl (b : Bool) : xm b = [.bool b] := rfl
theorem zs7 (k : IntKind) (n : Int) : kE k n = [.int k n] := rfl
theorem qp8 {α : Type} (k : Nat) (e : α → List PV) (s : Sl α) : slE k e s = [.sl s.nil (szc k s.l) (List.map e s.l)] := rfl
theorem qyr {α : Type} (e : α → List PV) (s : α × α) : xq e s = e s.1 ++ e s.2 := rfl
def zo7 := PLift.up (And.intro @qwa (And.intro @zeb (And.intro @z7n (And.intro @qrq (And.intro @z6e (And.intro @ze8 (And.intro @z6g (And.intro @zgx (And.intro @qwf (And.intro @qnx (And.intro @z4v (And.intro @z1b (And.intro @zcl (And.intro @zs7 (And.intro @qp8 @qyr)))))))))))))))
section
variable {α β : Type} {r : β} {P : Prop}
theorem bs {o : Option α} {k : α → Option β} (f : ∀ x,o = some x → k x = some r → P) (h : o >>= k = some r) : P := by
 obtain ⟨x,h1,h2⟩ := Option.bind_eq_some_iff.1 h
 exact f x h1 h2
theorem it {b : Bool} {p q : Option β} (f : b = true → p = some r → P) (g : b = false → q = some r → P) (h : (if b = true then p else q) = some r) : P := by
 cases b
 ·exact g rfl h
 ·exact f rfl h
theorem gd {Q : Prop} [Decidable Q] {p : Option β} (f : Q → p = some r → P) (h : (if Q then p else none) = some r) : P := by
 split at h
 ·exact f ‹_› h
 ·cases h
variable {l : List α} {i lo hi : Int}
theorem bg {k : α → Option β} (e : α → List PV) (f : ∀ x,q9 l i = some x → (∀ kd,zg (.pv (.int kd i)) = some i.toNat) → (List.map e l)[i.toNat]? = some (e x) → (∀ z,(szc z l = z) = True) → k x = some r → P) (h : q9 l i >>= k = some r) : P :=
 bs (fun x hx => f x hx (qd2 hx) (qcv e hx) (zib hx)) h
theorem bw {k : α → Option β} (e : α → List PV) (f : ∀ x,q9 l i = some x → (∀ kd,zg (.pv (.int kd i)) = some i.toNat) → (List.map e l)[i.toNat]? = some (e x) → (i.toNat < l.length) = True → k x = some r → P) (h : q9 l i >>= k = some r) : P :=
 bs (fun x hx => f x hx (qd2 hx) (qcv e hx) (qht hx)) h
theorem bW {k : α → Option β} (e : α → List PV) (z : Nat) (f : ∀ x,q9 l i = some x → (∀ kd,zg (.pv (.int kd i)) = some i.toNat) → (List.map e l)[i.toNat]? = some (e x) → (i.toNat < l.length) = True → l.isEmpty = false → szc z l = z → k x = some r → P) (h : q9 l i >>= k = some r) : P :=
 bs (fun x hx => f x hx (qd2 hx) (qcv e hx) (qht hx) (ziq hx) (qhm hx z)) h
variable {k : List α → Option β}
theorem b2s (f : ∀ x,zy l lo hi = some x → (∀ kd,zg (.pv (.int kd lo)) = some lo.toNat) → (∀ kd,zg (.pv (.int kd hi)) = some hi.toNat) → (lo.toNat ≤ hi.toNat) = True → (hi.toNat ≤ l.length) = True → (l.take hi.toNat).drop lo.toNat = x → k x = some r → P) (h : zy l lo hi >>= k = some r) : P :=
 bs (fun x hx => f x hx (qhv hx) (qfh hx) (qkd hx) (qe7 hx) (qb7 hx)) h
theorem b2 (e : α → List PV) (f : ∀ x,zy l lo hi = some x → (∀ kd,zg (.pv (.int kd lo)) = some lo.toNat) → (∀ kd,zg (.pv (.int kd hi)) = some hi.toNat) → (lo.toNat ≤ hi.toNat) = True → (hi.toNat ≤ l.length) = True → ((List.map e l).take hi.toNat).drop lo.toNat = List.map e x → (∀ z,szc (szc z l) x = szc z x) → k x = some r → P) (h : zy l lo hi >>= k = some r) : P :=
 bs (fun x hx => f x hx (qhv hx) (qfh hx) (qkd hx) (qe7 hx) (zhm e hx) (qrk hx)) h
theorem bFs (f : ∀ x,jv l lo = some x → (∀ kd,zg (.pv (.int kd lo)) = some lo.toNat) → (lo.toNat ≤ l.length) = True → l.drop lo.toNat = x → k x = some r → P) (h : jv l lo >>= k = some r) : P :=
 bs (fun x hx => f x hx (zp0 hx) (qvz hx) (qt5 hx)) h
theorem bTs (f : ∀ x,ku l hi = some x → (∀ kd,zg (.pv (.int kd hi)) = some hi.toNat) → (hi.toNat ≤ l.length) = True → l.take hi.toNat = x → k x = some r → P) (h : ku l hi >>= k = some r) : P :=
 bs (fun x hx => f x hx (zg3 hx) (zjf hx) (zi5 hx)) h
variable {s : List α}
theorem rG (k : Nat) (e : α → List PV) (l : List α) (te : TI) (β nx : Nat) (c : List PV) (hk : k = te.size) (hr : qj (l.length + 1) te.bytes = true) :
  q1k te β l.length l.length [c] nx (some (.row l.isEmpty (szc k l) (List.map e l))) = some (.row β (List.map e l ++ [c]).length 0 (List.map e l ++ [c]).length,[(β,.row false k (List.map e l ++ [c]))],nx) := qwx te β k nx e l c [] hk hr
end
section
variable (m : ze) (k v : Int) (b : Bool) (β : Nat)
theorem mG : q41 ⟨1,8,.int .i64,[.int .i64 0],b⟩ (.int .i64 k) false (some (.map (List.map zx m.es) m.clock)) = some (.pv (.int .i64 (xy m k))) := zhq b m k
theorem mG2 : q41 ⟨1,8,.int .i64,[.int .i64 0],b⟩ (.int .i64 k) true (some (.map (List.map zx m.es) m.clock)) = some (.tup [.pv (.int .i64 (xy m k)),.pv (.bool (q3m m k))]) := qwd b m k
theorem mP : q8u β (.int .i64 k) (.int .i64 v) (some (.map (List.map zx m.es) m.clock)) = some [(β,.map (List.map zx (vw m k v).es) (vw m k v).clock)] := zkb β m k v
theorem mD : q9q β (.int .i64 k) (some (.map (List.map zx m.es) m.clock)) = some [(β,.map (List.map zx (q4y m k).es) (q4y m k).clock)] := zcn β m k
end
theorem fF {G : GP} {f : FuncId} {S : Special} {nt : Nat} {ob : Option Code} {ra : Array ResultVar} (hfi : G.fn f = some ⟨nt,ra.toList,ob.get!⟩) {c : Code} {rs : List ResultVar} {H : Heap} {args : List AV} {r : Option (AV × Heap)}
  (hs : S.call f = none := by rfl) (hc : ob = some c := by rfl) (hr : ra = ⟨rs⟩ := by rfl) (hk : xu 0 H = true := by rfl)
  (h : q84 G f H.length rs (cont G (omega G S) f [.code c] (.normal,⟨yj 0 args,H,H.length⟩)) = r := by
   simp (maxSteps := 2000000) (disch := first | assumption | rfl | exact qds.mk (by kernel_rfl)) only [go_sem,↓reduceIte,Nat.reduceLeDiff,Nat.reduceEqDiff,Nat.reduceLT,Nat.reduceAdd,Nat.reduceSub,Nat.reduceMul,reduceCtorEq,Nat.reducePow, *]) :
  (omega G S).call f args H = r := qu3 hs hfi hc hr hk h
theorem fL {G : GP} {f : FuncId} {S : Special} {fi : FI} (hfi : G.fn f = some fi) {id : Nat} {c : Code} {s : St} {r : Option (Ex × St)}
  (hc : zf fi.body id = some c := by rfl)
  (h : roundEnd G (omega G S) f id s.nx (cont G (omega G S) f [.code c] (.normal,s)) = r := by
   simp (maxSteps := 2000000) (disch := first | assumption | rfl | exact qds.mk (by kernel_rfl)) only [go_sem,↓reduceIte,Nat.reduceLeDiff,Nat.reduceEqDiff,Nat.reduceLT,Nat.reduceAdd,Nat.reduceSub,Nat.reduceMul,reduceCtorEq,Nat.reducePow, *]) :
  (omega G S).loop f id s = r := qv6 hfi hc h
def refsOf (H : Heap) : List Nat → List Nat
 | [] => []
 | β :: r => (jg H β).refs ++ refsOf H r
theorem qfw (H : Heap) : ∀ d : List Nat,(d.flatMap fun β => (jg H β).refs) = refsOf H d
 | [] => rfl
 | β :: r => by rw [List.flatMap_cons,qfw H r]; rfl
theorem z1d (H : Heap) (d roots : List Nat) : mi H d roots = match roots,d with
 | [],[] => some ([],[])
 | roots,d => let L := reach H 400 (roots ++ refsOf H d) d
  if q11 roots L && closedIn H L L then some (L,pick H (pos L) 0 L) else none := by
 cases roots <;> cases d <;> first | rfl | simp only [mi,qfw]
theorem qqh (H : Heap) : xk .ptr (.pv .nilptr) H = some true := rfl
theorem zns (H : Heap) (β o : Nat) : xk .ptr (.ptr β o) H = some false := rfl
theorem qwh (H : Heap) (c : List PV) (o : Nat) : xk .ptr (.rptr c o) H = some false := rfl
theorem qw5 (H : Heap) (β ver i o : Nat) : xk .ptr (.eptr β ver i o) H = some false := rfl
theorem z1r (H : Heap) (c : List PV) : xk .ptr (.pv (.rp c)) H = some false := rfl
theorem zcj (H : Heap) (e : TypeId) (b : Bool) (sz : Nat) (es : List (List PV)) : xk (.slice e) (.pv (.sl b sz es)) H = some b := rfl
theorem qvi (H : Heap) (e : TypeId) : xk (.slice e) .zsl H = some false := rfl
theorem zam (H : Heap) (e : TypeId) (β ver off n : Nat) : xk (.slice e) (.row β ver off n) H = match H.get β with | some (.row b _ es) => if ver = es.length then some b else none | _ => none := rfl
theorem qyj (H : Heap) (k e : TypeId) : xk (.map k e) (.pv .nilmap) H = some true := rfl
theorem qt0 (H : Heap) (k e : TypeId) (β : Nat) : xk (.map k e) (.map β) H = some false := rfl
theorem z9u (H : Heap) : xk .func (.pv .nilfn) H = some true := rfl
theorem qnu (H : Heap) (f : FuncId) : xk .func (.pv (.fn f)) H = some false := rfl
theorem z7l (H : Heap) (f : FuncId) (a b : List AV) : xk .func (.clo f a b) H = some false := rfl
theorem take_set {α β : Type} (e : α → β) (l : List α) (i : Nat) (x : α) : (List.map e (l.set i x)).take l.length = List.map e (l.set i x) := by
 have h : (l.set i x).length = l.length := List.length_set
 rw [← List.map_take,← h,List.take_length]
end Go.Gm
namespace Go.Gm
open Go
end Go.Gm
