/-
  The machine, part d.
-/
import Derived.Test.YtcelddmcoklooaaGreatDoorJac
set_option linter.unusedSimpArgs false
set_option linter.unusedVariables false
namespace Go.Gm
open Go
abbrev Bytes := List UInt8
structure Sl (α : Type) where
 nil : Bool
 l : List α
 deriving Inhabited,DecidableEq
def kg (s : Bytes) : List PV := [.str s]
def zn (n : Int) : List PV := [.int .i64 n]
def kE (k : IntKind) (n : Int) : List PV := [.int k n]
def q3v (b : Bool) : List PV := [.bool b]
def vg (b : UInt8) : List PV := [.int .u8 b.toNat]
def slE {α : Type} (k : Nat) (e : α → List PV) (s : Sl α) : List PV := [.sl s.nil (szc k s.l) (List.map e s.l)]
def qfr {α : Type} (e : α → List PV) (s : α × α) : List PV := e s.1 ++ e s.2
abbrev Dum : Prop := ∀ x : Bool,(x && true) = x
def qh {α : Type} (l : List α) (i : Int) : Option α := if 0 ≤ i then l[i.toNat]? else none
def xq {α : Type} (l : List α) (lo hi : Int) : Option (List α) := if (0 ≤ lo ∧ 0 ≤ hi) ∧ (lo.toNat ≤ hi.toNat ∧ hi.toNat ≤ l.length) then some ((l.take hi.toNat).drop lo.toNat) else none
def u8 (n : Int) : UInt8 := UInt8.ofNat n.toNat
section
variable {α : Type} {l : List α} {i lo hi : Int} {x : α} {r : List α}
theorem qap (h : qh l i = some x) (k : IntKind) : zy (.pv (.int k i)) = some i.toNat := by
 unfold qh at h; split at h
 ·rename_i h0; simp [zy,h0]
 ·cases h
theorem q6u (h : qh l i = some x) : l[i.toNat]? = some x := by
 unfold qh at h; split at h
 ·exact h
 ·cases h
theorem q8m {β : Type} (e : α → β) (h : qh l i = some x) : (List.map e l)[i.toNat]? = some (e x) := by simp [q6u h]
theorem zv1 (h : qh l i = some x) : l.isEmpty = false := by
 have := q6u h; cases l <;> simp_all
theorem qdp (h : qh l i = some x) (k : Nat) : szc k l = k := by
 have := q6u h; cases l <;> simp_all [szc]
theorem qop (h : qh l i = some x) (k : Nat) : (szc k l = k) = True := by simp [qdp h]
theorem qez (h : qh l i = some x) : (i.toNat < l.length) = True := by
 have := q6u h; simp only [eq_iff_iff,iff_true]; exact (List.getElem?_eq_some_iff.1 this).1
theorem qfz (h : xq l lo hi = some r) (k : IntKind) : zy (.pv (.int k lo)) = some lo.toNat := by
 unfold xq at h; split at h
 ·rename_i h0; simp [zy,h0.1.1]
 ·cases h
theorem qc8 (h : xq l lo hi = some r) (k : IntKind) : zy (.pv (.int k hi)) = some hi.toNat := by
 unfold xq at h; split at h
 ·rename_i h0; simp [zy,h0.1.2]
 ·cases h
theorem qdm (h : xq l lo hi = some r) : (lo.toNat ≤ hi.toNat) = True := by
 unfold xq at h; split at h
 ·rename_i h0; simp [h0.2.1]
 ·cases h
theorem qdk (h : xq l lo hi = some r) : (hi.toNat ≤ l.length) = True := by
 unfold xq at h; split at h
 ·rename_i h0; simp [h0.2.2]
 ·cases h
theorem q99 (h : xq l lo hi = some r) : (l.take hi.toNat).drop lo.toNat = r := by
 unfold xq at h; split at h <;> simp_all
theorem zsj {β : Type} (e : α → β) (h : xq l lo hi = some r) : ((List.map e l).take hi.toNat).drop lo.toNat = List.map e r := by rw [← List.map_take,← List.map_drop,q99 h]
theorem z1i (h : xq l lo hi = some r) (k : Nat) : szc (szc k l) r = szc k r := by
 have := q99 h
 cases r with
 | nil => rfl
 | cons => cases l <;> simp_all [szc]
theorem qyh {β : Type} (k : Nat) (e : α → β) (l : List α) : szc k (List.map e l) = szc k l := by cases l <;> rfl
theorem zlx (k : Nat) (l : List α) : szc (szc k l) l = szc k l := by cases l <;> rfl
theorem q19 (k : Nat) : szc k ([] : List α) = 0 := rfl
theorem qcv (k : Nat) (x : α) (l : List α) : szc k (x :: l) = k := rfl
theorem qbt (k : Nat) (l : List α) (x : α) (r : List α) : szc k (l ++ x :: r) = k := by cases l <;> rfl
theorem qfl (k : Nat) (l : List α) (i : Nat) (x : α) : szc k (l.set i x) = szc k l := by cases l <;> cases i <;> rfl
theorem qwr {β : Type} (e : α → β) (l : List α) : (List.map e l).isEmpty = l.isEmpty := by cases l <;> rfl
theorem qcq (l : List α) (x : α) (r : List α) : (l ++ x :: r).isEmpty = false := by cases l <;> rfl
theorem qeb (l : List α) (i : Nat) (x : α) : (l.set i x).isEmpty = l.isEmpty := by cases l <;> cases i <;> rfl
theorem qee (x : α) (l : List α) : (x :: l).isEmpty = false := rfl
theorem qe4 : ([] : List α).isEmpty = true := rfl
theorem q84 {β : Type} (k : Nat) (e : α → β) (l : List α) : (szc k l = k ∨ List.map e l = []) = True := by cases l <;> simp [szc]
theorem take_len {β : Type} (e : α → β) (l : List α) : (List.map e l).take l.length = List.map e l := by rw [← List.map_take,List.take_length]
theorem map_set {β : Type} (e : α → β) (l : List α) (i : Nat) (x : α) : (List.map e l).set i (e x) = List.map e (l.set i x) := by simp [List.map_set]
theorem qyb (s : Bytes) : List.map (fun b => [PV.int .u8 (b.toNat : Int)]) s = List.map vg s := rfl
theorem bytesOf_map : ∀ s : Bytes,bytesOf (List.map vg s) = some s
 | [] => rfl
 | b :: s => by simp [vg,bytesOf,bytesOf_map s]
theorem q1a (b : UInt8) : u8 (b.toNat : Int) = b := by simp [u8]
theorem q1v (n : Int) : ((u8 (IntKind.u8.wrap n)).toNat : Int) = IntKind.u8.wrap n := by
 have h : 0 ≤ IntKind.u8.wrap n ∧ IntKind.u8.wrap n < 256 := by
  simp only [IntKind.wrap,IntKind.bits,IntKind.signed]
  constructor
  ·simp; omega
  ·simp; omega
 simp only [u8,UInt8.toNat_ofNat']
 omega
theorem zjs : List.range 1 = [0] := rfl
theorem zr8 : List.range 2 = [0,1] := rfl
theorem zrr : List.range 3 = [0,1,2] := rfl
theorem zp2 : List.range 4 = [0,1,2,3] := rfl
theorem zk6 : List.range 5 = [0,1,2,3,4] := rfl
theorem x0b : List.range 6 = [0,1,2,3,4,5] := rfl
def q1i (te : TI) (β L n : Nat) (src : List (List PV)) (nx : Nat) : Option Blk → Option Eff
 | some (.row true _ es) => if L = es.length ∧ n = 0 then jv te (.row β L 0 n) src β nx nx else none
 | some (.row false sz es) =>
  if L = es.length ∧ sz = te.size ∧ zx (n + src.length) te.bytes = true then
   if n = es.length then some (.row β (es ++ src).length 0 (es ++ src).length,[(β,.row false te.size (es ++ src))],nx)
   else some (.row β (es.take n ++ src ++ es.drop (n + src.length)).length 0 (n + src.length),[(β,.row false te.size (es.take n ++ src ++ es.drop (n + src.length)))],nx)
  else none
 | _ => none
theorem z7p (te : TI) (β L n nx sz : Nat) (es src : List (List PV)) : q1i te β L n src nx (some (.row false sz es)) =
  if L = es.length ∧ sz = te.size ∧ zx (n + src.length) te.bytes = true then
   if n = es.length then some (.row β (es ++ src).length 0 (es ++ src).length,[(β,.row false te.size (es ++ src))],nx)
   else some (.row β (es.take n ++ src ++ es.drop (n + src.length)).length 0 (n + src.length),[(β,.row false te.size (es.take n ++ src ++ es.drop (n + src.length)))],nx)
  else none := rfl
theorem z10 (te : TI) (β L n nx sz : Nat) (es src : List (List PV)) : q1i te β L n src nx (some (.row true sz es)) = if L = es.length ∧ n = 0 then jv te (.row β L 0 n) src β nx nx else none := rfl
def q8j (te : TI) (β L n : Nat) (H : Heap) (nx : Nat) (d : Option Eff) : Option (Nat × List (List PV)) → Option Eff
 | none => d
 | some (xsz,src) => if (xsz = te.size ∨ src = []) ∧ 0 < te.size then q1i te β L n src nx (H.get β) else none
theorem zsg (te : TI) (β L n : Nat) (x : AV) (H : Heap) (nx : Nat) : jw te (.row β L 0 n) x H nx = q8j te β L n H nx (mo te (.row β L 0 n) x H nx) (j5 x H) := by
 unfold jw q8j
 cases j5 x H with
 | none => rfl
 | some p =>
  obtain ⟨xsz,src⟩ := p
  simp only
  split
  ·unfold q1i
   cases H.get β with
   | none => rfl
   | some b =>
    cases b with
    | row isnil sz es => cases isnil <;> simp
    | _ => rfl
  ·rfl
theorem qjt (te : TI) (sz : Nat) (es : List (List PV)) (x : AV) (H : Heap) (nx : Nat) : jw te (.pv (.sl true sz es)) x H nx =
  match j5 x H with
  | none => mo te (.pv (.sl true sz es)) x H nx
  | some (xsz,src) => if (xsz = te.size ∨ src = []) ∧ 0 < te.size then jv te (.pv (.sl true sz es)) src nx nx (nx + 1) else none := rfl
theorem qhz (te : TI) (x : AV) (H : Heap) (nx : Nat) : jw te .zsl x H nx =
  match j5 x H with
  | none => mo te .zsl x H nx
  | some (xsz,src) => if (xsz = te.size ∨ src = []) ∧ 0 < te.size then jv te .zsl src nx nx (nx + 1) else none := rfl
theorem za0 (te : TI) (β k nx : Nat) (e : α → List PV) (l : List α) (c : List PV) (src : List (List PV)) (hk : k = te.size) (hr : zx (l.length + (c :: src).length) te.bytes = true) :
  q1i te β l.length l.length (c :: src) nx (some (.row l.isEmpty (szc k l) (List.map e l))) =
   some (.row β (List.map e l ++ c :: src).length 0 (List.map e l ++ c :: src).length,[(β,.row false k (List.map e l ++ c :: src))],nx) := by
 subst hk
 cases l with
 | nil =>
  have hr' : zx (src.length + 1) te.bytes = true := by simpa using hr
  simp [q1i,jv,hr']
 | cons a l =>
  have hr' : zx (l.length + 1 + (src.length + 1)) te.bytes = true := by simpa using hr
  simp [q1i,szc,hr']
end
structure xk where
 es : List (Int × Int × Nat)
 clock : Nat
 deriving Inhabited
def xh (e : Int × Int × Nat) : PV × PV × Nat := (.int .i64 e.1,.int .i64 e.2.1,e.2.2)
def yh (k : Int) : List (Int × Int × Nat) → Nat → Option (Nat × Int × Nat)
 | [],_ => none
 | (x,v,b) :: r,i => if k == x then some (i,v,b) else yh k r (i + 1)
def q3h (m : xk) (k : Int) : Bool := (yh k m.es 0).isSome
def yu (m : xk) (k : Int) : Int := match yh k m.es 0 with | some (_,v,_) => v | none => 0
def q0w (m : xk) (k v : Int) : xk := match yh k m.es 0 with | some (i,_,b) => ⟨m.es.set i (k,v,b),m.clock⟩ | none => ⟨m.es ++ [(k,v,m.clock)],m.clock + 1⟩
def q30 (m : xk) (k : Int) : xk := match yh k m.es 0 with | some (i,_,_) => ⟨m.es.eraseIdx i,m.clock⟩ | none => m
theorem q57 (k : Int) : ∀ (l : List (Int × Int × Nat)) (i : Nat),findKey (.int .i64 k) (List.map xh l) i = some ((yh k l i).map fun x => (x.1,.int .i64 x.2.1,x.2.2))
 | [],i => rfl
 | (x,v,b) :: r,i => by
  simp only [List.map_cons,xh,findKey,q3j,yh,if_true]
  cases h : (k == x) with
  | true => simp
  | false => simp only [q57 k r (i + 1)]; simp
theorem qew {α β : Type} (e : α → β) : ∀ (l : List α) (i : Nat),(List.map e l).eraseIdx i = List.map e (l.eraseIdx i)
 | [],i => by simp
 | x :: l,0 => rfl
 | x :: l,i + 1 => by simp [qew e l i]
def q3c (te : TI) (k : PV) (ok : Bool) : Option Blk → Option AV
 | some (.map es _) => match findKey k es 0 with
  | some (some (_,v,_)) => some (if ok then .tup [.pv v,.pv (.bool true)] else .pv v)
  | some none => some (if ok then .tup [.pv (kv te),.pv (.bool false)] else .pv (kv te))
  | none => none
 | _ => none
def q6t (β : Nat) (k v : PV) : Option Blk → Option (List (Nat × Blk))
 | some (.map es clock) => match findKey k es 0 with
  | some (some (i,_,born)) => some [(β,.map (es.set i (k,v,born)) clock)]
  | some none => some [(β,.map (es ++ [(k,v,clock)]) (clock + 1))]
  | none => none
 | _ => none
def x3c (te : TI) (β : Nat) (k : PV) : Option Blk → Option (AV × List (Nat × Blk))
 | some (.map es clock) => match findKey k es 0 with
  | some (some (i,v,born)) => some (.tup [.pv v,.pv (.int .i64 born)],[(β,.map (es.set i (k,v,born)) clock)])
  | some none => some (.tup [.pv (kv te),.pv (.int .i64 clock)],[(β,.map (es ++ [(k,kv te,clock)]) (clock + 1))])
  | none => none
 | _ => none
def qza (β : Nat) (born : Int) (v : PV) : Option Blk → Option (List (Nat × Blk))
 | some (.map es clock) => match q68 born es 0 with
  | some (i,k,b) => some [(β,.map (es.set i (k,v,b)) clock)]
  | none => none
 | _ => none
def q80 (β : Nat) (k : PV) : Option Blk → Option (List (Nat × Blk))
 | some (.map es clock) => match findKey k es 0 with
  | some (some (i,_,_)) => some [(β,.map (es.eraseIdx i) clock)]
  | some none => some [(β,.map es clock)]
  | none => none
 | _ => none
theorem zar (tk te : TI) (β : Nat) (k : PV) (ok : Bool) (H : Heap) : q1n tk te (.map β) (.pv k) ok H = if ze tk.td k = true then q3c te k ok (H.get β) else none := by
 unfold q1n q3e
 simp only
 split
 ·cases H.get β with
  | none => rfl
  | some b => cases b <;> rfl
 ·rfl
theorem zz7 (tk : TI) (β : Nat) (k v : PV) (H : Heap) : mi tk (.map β) (.pv k) v H = if ze tk.td k = true then q6t β k v (H.get β) else none := by
 unfold mi
 simp only
 split
 ·cases H.get β with
  | none => rfl
  | some b => cases b <;> rfl
 ·rfl
theorem z2z (tk te : TI) (β : Nat) (k : PV) (H : Heap) : tq tk te (.map β) (.pv k) H = if ze tk.td k = true then x3c te β k (H.get β) else none := by
 unfold tq
 simp only
 split
 ·cases H.get β with
  | none => rfl
  | some b => cases b <;> rfl
 ·rfl
theorem zf9 (β : Nat) (kd : IntKind) (born : Int) (v : PV) (H : Heap) : nk (.map β) (.pv (.int kd born)) v H = qza β born v (H.get β) := by
 unfold nk
 simp only
 cases H.get β with
 | none => rfl
 | some b => cases b <;> rfl
theorem z5u (tk : TI) (β : Nat) (k : PV) (H : Heap) : mr tk (.map β) (.pv k) H = if ze tk.td k = true then q80 β k (H.get β) else none := by
 unfold mr
 simp only
 split
 ·cases H.get β with
  | none => rfl
  | some b => cases b <;> rfl
 ·rfl
section
variable (b : Bool) (β : Nat) (m : xk) (k : Int)
theorem qsl : q3c ⟨1,8,.int .i64,[.int .i64 0],b,none⟩ (.int .i64 k) false (some (.map (List.map xh m.es) m.clock)) = some (.pv (.int .i64 (yu m k))) := by
 simp only [q3c,q57,yu]
 cases yh k m.es 0 <;> simp [kv,TI.isAgg]
theorem qk3 : q3c ⟨1,8,.int .i64,[.int .i64 0],b,none⟩ (.int .i64 k) true (some (.map (List.map xh m.es) m.clock)) = some (.tup [.pv (.int .i64 (yu m k)),.pv (.bool (q3h m k))]) := by
 simp only [q3c,q57,yu,q3h]
 cases yh k m.es 0 <;> simp [kv,TI.isAgg]
theorem zif (v : Int) : q6t β (.int .i64 k) (.int .i64 v) (some (.map (List.map xh m.es) m.clock)) = some [(β,.map (List.map xh (q0w m k v).es) (q0w m k v).clock)] := by
 simp only [q6t,q57,q0w]
 cases yh k m.es 0 <;> simp [xh,List.map_set]
theorem qok : q80 β (.int .i64 k) (some (.map (List.map xh m.es) m.clock)) = some [(β,.map (List.map xh (q30 m k).es) (q30 m k).clock)] := by
 simp only [q80,q57,q30]
 cases h : yh k m.es 0 <;> simp [qew]
end
def q7z (m : xk) : Option (List Int) := if q8r (m.es.map (·.1)) (m.es.map (·.2.2)) m.clock then some (xu (m.es.map (·.1))) else none
theorem qg7 : ∀ l : List (Int × Int × Nat),q2y (List.map xh l) = some (l.map (·.1))
 | [] => rfl
 | x :: r => by simp [xh,q2y,qg7 r]
theorem qep : ∀ l : List (Int × Int × Nat),ng (List.map xh l) = l.map (·.2.2)
 | [] => rfl
 | x :: r => by simp [xh,ng,qep r]
theorem qmh {m : xk} {r : List Int} (h : q7z m = some r) (fk : FuncId) :
  q50 fk [.clo fk [] [.ptr 0 0]] [(0,.box [.map 1]),(1,.map (List.map xh m.es) m.clock)] = some (.row 2 r.length 0 r.length,[(0,.box [.map 1]),(1,.map (List.map xh m.es) m.clock),(2,.row r.isEmpty (szc 1 r) (List.map zn r))]) := by
 unfold q7z at h
 split at h
 ·rename_i hf
  cases h
  simp only [q50,qg7,qep,hf,true_and,if_true]
  rfl
 ·cases h
theorem zad {α : Type} {l : List α} {n : Nat} (h : n < l.length) : qh l (n : Int) = some l[n] := by simp [qh,h]
theorem zi5 {α β : Type} (f : α → β) (a : α) (l : List α) : List.map f (a :: l) = f a :: List.map f l := rfl
theorem qjn {α β : Type} (f : α → β) : List.map f ([] : List α) = [] := rfl
theorem z7q {α : Type} : ([] : List α).length = 0 := rfl
theorem qv3 {α : Type} (a : α) (l : List α) : (a :: l).length = l.length + 1 := rfl
theorem x3f {α : Type} (l : List α) (x : α) : (l.length < (l ++ [x]).length) = True := by simp
theorem zmt {α β : Type} (f : α → β) (l : List α) (x : β) : (l.length < (List.map f l ++ [x]).length) = True := by simp
theorem qf2 {α : Type} (l : List α) (i : Nat) (x : α) : (l.set i x).length = l.length := List.length_set
def qrl := PLift.up (And.intro @zi5 (And.intro @qjn (And.intro @z7q (And.intro @qv3 (And.intro @q19 (And.intro @qcv (And.intro @qbt (And.intro @qfl (And.intro @qe4 (And.intro @qee (And.intro @qcq (And.intro @qeb (And.intro @qf2 (And.intro @q1a @q1v))))))))))))))
theorem qca {α : Type} {P : Program} {t : TypeId} {e : α → List PV} {ok : α → Prop} {n : Nat} (h : Reads P t e ok n) : Reads P t e (fun _ => True) n := h.map (fun x => x) (fun _ _ => ⟨trivial,rfl⟩)
def jl {α : Type} (_ : α) : Prop := True
theorem zw4 {P : Program} {t : TypeId} (ht : P.underlying t = some (.int .u8)) (hc : P.cellsOf t = 1) (n : Nat) : Reads P t vg (fun _ => True) n :=
 (Reads.int ht hc n).map u8 (fun x hx => ⟨trivial,by
  simp [Lit.wf,IntKind.min,IntKind.max,IntKind.signed,IntKind.bits] at hx
  simp only [vg,u8,UInt8.toNat_ofNat',List.cons.injEq,PV.int.injEq,true_and,and_true]
  omega⟩)
def inI (n : Int) : Prop := -9223372036854775808 ≤ n ∧ n ≤ 9223372036854775807
def j3 (s : Bytes) : Prop := s.length ≤ maxLen
def zt {α : Type} (ok : α → Prop) (s : Sl α) : Prop := (s.l.length ≤ maxLen ∧ (s.nil = true → s.l = [])) ∧ ∀ a ∈ s.l,ok a
def inU (n : Int) : Prop := 0 ≤ n ∧ n ≤ 4294967295
theorem q86 {n : Int} (h1 : -9223372036854775808 ≤ n) (h2 : n ≤ 9223372036854775807) : IntKind.i64.wrap n = n := IntWalk.i64_in n ⟨h1,h2⟩
theorem zfs (b : Bool) : AV.cells (.pv (.bool b)) = [(.pv (.bool b))] := rfl
theorem zn0 (k : IntKind) (n : Int) : AV.cells (.pv (.int k n)) = [(.pv (.int k n))] := rfl
theorem zqj (l : List UInt8) : AV.cells (.pv (.str l)) = [(.pv (.str l))] := rfl
theorem zt6 (a : Bool) (b : Nat) (c : List (List PV)) : AV.cells (.pv (.sl a b c)) = [(.pv (.sl a b c))] := rfl
theorem x3z : AV.cells (.pv (.nilptr)) = [(.pv (.nilptr))] := rfl
theorem qna : AV.cells (.pv (.nilfn)) = [(.pv (.nilfn))] := rfl
theorem zg7 : AV.cells (.pv (.nilmap)) = [(.pv (.nilmap))] := rfl
theorem qkm : AV.cells (.pv (.nilif)) = [(.pv (.nilif))] := rfl
theorem zh2 (f : FuncId) : AV.cells (.pv (.fn f)) = [(.pv (.fn f))] := rfl
theorem zbt (c : List PV) : AV.cells (.pv (.rp c)) = [(.pv (.rp c))] := rfl
theorem qr0 (c : List PV) : AV.cells (.pv (.agg c)) = c.map .pv := rfl
theorem x0v (x y : Nat) : AV.cells (.ptr x y) = [(.ptr x y)] := rfl
theorem zb3 (x y z u : Nat) : AV.cells (.eptr x y z u) = [(.eptr x y z u)] := rfl
theorem zd2 (c : List PV) (x : Nat) : AV.cells (.rptr c x) = [(.rptr c x)] := rfl
theorem qh1 (x y z u : Nat) : AV.cells (.row x y z u) = [(.row x y z u)] := rfl
theorem qs6 : AV.cells (.zsl) = [(.zsl)] := rfl
theorem zza (x : Nat) : AV.cells (.map x) = [(.map x)] := rfl
theorem zrx (f : FuncId) (a b : List AV) : AV.cells (.clo f a b) = [(.clo f a b)] := rfl
theorem x1z (l : List AV) : AV.cells (.tup l) = [(.tup l)] := rfl
theorem z3x (c : List AV) : AV.cells (.agg c) = c := rfl
abbrev v_i (n : Int) : AV := .pv (.int .i64 n)
abbrev v_b (b : Bool) : AV := .pv (.bool b)
abbrev v_s (s : Bytes) : AV := .pv (.str s)
abbrev v_g (l : List PV) : AV := .pv (.agg l)
abbrev v_l {α : Type} (k : Nat) (e : α → List PV) (s : Sl α) : AV := .pv (.sl s.nil (szc k s.l) (List.map e s.l))
abbrev v_r {α : Type} (β : Nat) (l : List α) : AV := .row β l.length 0 l.length
abbrev b_x (l : List PV) : Blk := .box (List.map .pv l)
abbrev b_r {α : Type} (k : Nat) (e : α → List PV) (l : List α) : Blk := .row l.isEmpty (szc k l) (List.map e l)
abbrev b_m (m : xk) : Blk := .map (List.map xh m.es) m.clock
theorem z5e (n : Int) : v_i n = .pv (.int .i64 n) := rfl
theorem zaa (b : Bool) : v_b b = .pv (.bool b) := rfl
theorem zcr (s : Bytes) : v_s s = .pv (.str s) := rfl
theorem qx0 (l : List PV) : v_g l = .pv (.agg l) := rfl
theorem z14 {α : Type} (k : Nat) (e : α → List PV) (s : Sl α) : v_l k e s = .pv (.sl s.nil (szc k s.l) (List.map e s.l)) := rfl
theorem qpw {α : Type} (β : Nat) (l : List α) : v_r β l = .row β l.length 0 l.length := rfl
theorem zy3 (l : List PV) : b_x l = .box (List.map .pv l) := rfl
theorem qnv {α : Type} (k : Nat) (e : α → List PV) (l : List α) : b_r k e l = .row l.isEmpty (szc k l) (List.map e l) := rfl
theorem qp5 (m : xk) : b_m m = .map (List.map xh m.es) m.clock := rfl
theorem qm2 (b : UInt8) : vg b = [.int .u8 b.toNat] := rfl
theorem z0t (n : Int) : zn n = [.int .i64 n] := rfl
theorem qhq (s : Bytes) : kg s = [.str s] := rfl
theorem qn9 (b : Bool) : q3v b = [.bool b] := rfl
theorem qgw (k : IntKind) (n : Int) : kE k n = [.int k n] := rfl
theorem qsp {α : Type} (k : Nat) (e : α → List PV) (s : Sl α) : slE k e s = [.sl s.nil (szc k s.l) (List.map e s.l)] := rfl
theorem x26 {α : Type} (e : α → List PV) (s : α × α) : qfr e s = e s.1 ++ e s.2 := rfl
def zqv := PLift.up (And.intro @z5e (And.intro @zaa (And.intro @zcr (And.intro @qx0 (And.intro @z14 (And.intro @qpw (And.intro @zy3 (And.intro @qnv (And.intro @qp5 (And.intro @qm2 (And.intro @z0t (And.intro @qhq (And.intro @qn9 (And.intro @qgw (And.intro @qsp @x26)))))))))))))))
section
variable {α β : Type} {r : β} {P : Prop}
theorem bs {o : Option α} {k : α → Option β} (f : ∀ x,o = some x → k x = some r → P) (h : o >>= k = some r) : P := by
 obtain ⟨x,h1,h2⟩ := Option.bind_eq_some_iff.1 h
 exact f x h1 h2
theorem it {b : Bool} {p q : Option β} (f : b = true → p = some r → P) (g : b = false → q = some r → P) (h : (if b = true then p else q) = some r) : P := by
 cases b
 ·exact g rfl h
 ·exact f rfl h
theorem gd {Q : Prop} [Decidable Q] {p : Option β} (f : Q → p = some r → P) (h : (if Q then p else none) = some r) : P := by
 split at h
 ·exact f ‹_› h
 ·cases h
variable {l : List α} {i lo hi : Int}
theorem bg {k : α → Option β} (e : α → List PV) (f : ∀ x,qh l i = some x → (∀ kd,zy (.pv (.int kd i)) = some i.toNat) → (List.map e l)[i.toNat]? = some (e x) → (∀ z,(szc z l = z) = True) → k x = some r → P) (h : qh l i >>= k = some r) : P :=
 bs (fun x hx => f x hx (qap hx) (q8m e hx) (qop hx)) h
theorem bw {k : α → Option β} (e : α → List PV) (f : ∀ x,qh l i = some x → (∀ kd,zy (.pv (.int kd i)) = some i.toNat) → (List.map e l)[i.toNat]? = some (e x) → (i.toNat < l.length) = True → k x = some r → P) (h : qh l i >>= k = some r) : P :=
 bs (fun x hx => f x hx (qap hx) (q8m e hx) (qez hx)) h
theorem bW {k : α → Option β} (e : α → List PV) (z : Nat) (f : ∀ x,qh l i = some x → (∀ kd,zy (.pv (.int kd i)) = some i.toNat) → (List.map e l)[i.toNat]? = some (e x) → (i.toNat < l.length) = True → l.isEmpty = false → szc z l = z → k x = some r → P) (h : qh l i >>= k = some r) : P :=
 bs (fun x hx => f x hx (qap hx) (q8m e hx) (qez hx) (zv1 hx) (qdp hx z)) h
variable {k : List α → Option β}
theorem b2s (f : ∀ x,xq l lo hi = some x → (∀ kd,zy (.pv (.int kd lo)) = some lo.toNat) → (∀ kd,zy (.pv (.int kd hi)) = some hi.toNat) → (lo.toNat ≤ hi.toNat) = True → (hi.toNat ≤ l.length) = True → (l.take hi.toNat).drop lo.toNat = x → k x = some r → P) (h : xq l lo hi >>= k = some r) : P :=
 bs (fun x hx => f x hx (qfz hx) (qc8 hx) (qdm hx) (qdk hx) (q99 hx)) h
theorem b2 (e : α → List PV) (f : ∀ x,xq l lo hi = some x → (∀ kd,zy (.pv (.int kd lo)) = some lo.toNat) → (∀ kd,zy (.pv (.int kd hi)) = some hi.toNat) → (lo.toNat ≤ hi.toNat) = True → (hi.toNat ≤ l.length) = True → ((List.map e l).take hi.toNat).drop lo.toNat = List.map e x → (∀ z,szc (szc z l) x = szc z x) → k x = some r → P) (h : xq l lo hi >>= k = some r) : P :=
 bs (fun x hx => f x hx (qfz hx) (qc8 hx) (qdm hx) (qdk hx) (zsj e hx) (z1i hx)) h
variable {s : List α}
theorem rG (k : Nat) (e : α → List PV) (l : List α) (te : TI) (β nx : Nat) (c : List PV) (hk : k = te.size) (hr : zx (l.length + 1) te.bytes = true) :
  q1i te β l.length l.length [c] nx (some (.row l.isEmpty (szc k l) (List.map e l))) = some (.row β (List.map e l ++ [c]).length 0 (List.map e l ++ [c]).length,[(β,.row false k (List.map e l ++ [c]))],nx) := za0 te β k nx e l c [] hk hr
end
section
variable (m : xk) (k v : Int) (b : Bool) (β : Nat)
theorem mG : q3c ⟨1,8,.int .i64,[.int .i64 0],b,none⟩ (.int .i64 k) false (some (.map (List.map xh m.es) m.clock)) = some (.pv (.int .i64 (yu m k))) := qsl b m k
theorem mG2 : q3c ⟨1,8,.int .i64,[.int .i64 0],b,none⟩ (.int .i64 k) true (some (.map (List.map xh m.es) m.clock)) = some (.tup [.pv (.int .i64 (yu m k)),.pv (.bool (q3h m k))]) := qk3 b m k
theorem mP : q6t β (.int .i64 k) (.int .i64 v) (some (.map (List.map xh m.es) m.clock)) = some [(β,.map (List.map xh (q0w m k v).es) (q0w m k v).clock)] := zif β m k v
theorem mD : q80 β (.int .i64 k) (some (.map (List.map xh m.es) m.clock)) = some [(β,.map (List.map xh (q30 m k).es) (q30 m k).clock)] := qok β m k
end
theorem fF {G : GP} {f : FuncId} {S : Special} {nt : Nat} {ob : Option Code} {ra : Array ResultVar} (hfi : G.fn f = some ⟨nt,ra.toList,ob.get!⟩) {c : Code} {rs : List ResultVar} {H : Heap} {args : List AV} {r : Option (AV × Heap)}
  (hs : S.call f = none := by rfl) (hc : ob = some c := by rfl) (hr : ra = ⟨rs⟩ := by rfl) (hk : xz 0 H = true := by rfl)
  (h : q5d G f H.length rs (cont G (omega G S) f [.code c] (.normal,⟨yf 0 args,H,H.length⟩)) = r := by
   simp (maxSteps := 2000000) (disch := first | assumption | rfl | exact qa0.mk (by kernel_rfl)) only [go_sem,↓reduceIte,Nat.reduceLeDiff,Nat.reduceEqDiff,Nat.reduceLT,Nat.reduceAdd,Nat.reduceSub,Nat.reduceMul,reduceCtorEq,Nat.reducePow, *]) :
  (omega G S).call f args H = r := zzd hs hfi hc hr hk h
theorem fL {G : GP} {f : FuncId} {S : Special} {fi : FI} (hfi : G.fn f = some fi) {id : Nat} {c : Code} {s : St} {r : Option (Ex × St)}
  (hc : zh fi.body id = some c := by rfl)
  (h : roundEnd G (omega G S) f id s.nx (cont G (omega G S) f [.code c] (.normal,s)) = r := by
   simp (maxSteps := 2000000) (disch := first | assumption | rfl | exact qa0.mk (by kernel_rfl)) only [go_sem,↓reduceIte,Nat.reduceLeDiff,Nat.reduceEqDiff,Nat.reduceLT,Nat.reduceAdd,Nat.reduceSub,Nat.reduceMul,reduceCtorEq,Nat.reducePow, *]) :
  (omega G S).loop f id s = r := qm7 hfi hc h
def refsOf (H : Heap) : List Nat → List Nat
 | [] => []
 | β :: r => (jm H β).refs ++ refsOf H r
theorem qb2 (H : Heap) : ∀ d : List Nat,(d.flatMap fun β => (jm H β).refs) = refsOf H d
 | [] => rfl
 | β :: r => by rw [List.flatMap_cons,qb2 H r]; rfl
theorem qvg (H : Heap) (d roots : List Nat) : bu H d roots = match roots,d with
 | [],[] => some ([],[])
 | roots,d => let L := reach H 400 (roots ++ refsOf H d) d
  if q0k roots L && closedIn H L L then some (L,pick H (pos L) 0 L) else none := by
 cases roots <;> cases d <;> first | rfl | simp only [bu,qb2]
theorem zn2 (H : Heap) : xx .ptr (.pv .nilptr) H = some true := rfl
theorem zvy (H : Heap) (β o : Nat) : xx .ptr (.ptr β o) H = some false := rfl
theorem z6k (H : Heap) (c : List PV) (o : Nat) : xx .ptr (.rptr c o) H = some false := rfl
theorem zoj (H : Heap) (β ver i o : Nat) : xx .ptr (.eptr β ver i o) H = some false := rfl
theorem qic (H : Heap) (c : List PV) : xx .ptr (.pv (.rp c)) H = some false := rfl
theorem qog (H : Heap) (e : TypeId) (b : Bool) (sz : Nat) (es : List (List PV)) : xx (.slice e) (.pv (.sl b sz es)) H = some b := rfl
theorem qv2 (H : Heap) (e : TypeId) : xx (.slice e) .zsl H = some false := rfl
theorem x4k (H : Heap) (e : TypeId) (β ver off n : Nat) : xx (.slice e) (.row β ver off n) H = match H.get β with | some (.row b _ es) => if ver = es.length then some b else none | _ => none := rfl
theorem qov (H : Heap) (k e : TypeId) : xx (.map k e) (.pv .nilmap) H = some true := rfl
theorem z90 (H : Heap) (k e : TypeId) (β : Nat) : xx (.map k e) (.map β) H = some false := rfl
theorem zrt (H : Heap) : xx .func (.pv .nilfn) H = some true := rfl
theorem zo2 (H : Heap) (f : FuncId) : xx .func (.pv (.fn f)) H = some false := rfl
theorem qk8 (H : Heap) (f : FuncId) (a b : List AV) : xx .func (.clo f a b) H = some false := rfl
theorem take_set {α β : Type} (e : α → β) (l : List α) (i : Nat) (x : α) : (List.map e (l.set i x)).take l.length = List.map e (l.set i x) := by
 have h : (l.set i x).length = l.length := List.length_set
 rw [← List.map_take,← h,List.take_length]
section
variable {α : Type} (k : Nat) (e : α → List PV) (l : List (Sl α))
end
end Go.Gm
namespace Go.Gm
open Go
end Go.Gm
