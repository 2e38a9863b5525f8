/-
  The machine, part d.
-/
import Derived.Test.YtdhgdeelagmbpaaGreatQac
set_option linter.unusedSimpArgs false
set_option linter.unusedVariables false
namespace Go.Gm
open Go
abbrev Bytes := List UInt8
structure Sl (α : Type) where
 nil : Bool
 l : List α
 deriving Inhabited,DecidableEq
def qh (s : Bytes) : List PV := [.str s]
def qb (n : Int) : List PV := [.int .i64 n]
def kE (k : IntKind) (n : Int) : List PV := [.int k n]
def ql1 (b : Bool) : List PV := [.bool b]
def ql (b : UInt8) : List PV := [.int .u8 b.toNat]
def slE {α : Type} (k : Nat) (e : α → List PV) (s : Sl α) : List PV := [.sl s.nil (szc k s.l) (List.map e s.l)]
def qjh {α : Type} (e : α → List PV) (s : α × α) : List PV := e s.1 ++ e s.2
abbrev Dum : Prop := ∀ x : Bool,(x && true) = x
def qd {α : Type} (l : List α) (i : Int) : Option α := if 0 ≤ i then l[i.toNat]? else none
def sub2 {α : Type} (l : List α) (lo hi : Int) : Option (List α) := if (0 ≤ lo ∧ 0 ≤ hi) ∧ (lo.toNat ≤ hi.toNat ∧ hi.toNat ≤ l.length) then some ((l.take hi.toNat).drop lo.toNat) else none
def jf {α : Type} (l : List α) (lo : Int) : Option (List α) := if 0 ≤ lo ∧ lo.toNat ≤ l.length then some (l.drop lo.toNat) else none
def yh {α : Type} (l : List α) (hi : Int) : Option (List α) := if 0 ≤ hi ∧ hi.toNat ≤ l.length then some (l.take hi.toNat) else none
def u8 (n : Int) : UInt8 := UInt8.ofNat n.toNat
def room (n b : Nat) : Bool := qj n b
section
variable {α : Type} {l : List α} {i lo hi : Int} {x : α} {r : List α}
theorem qe7 (h : qd l i = some x) (k : IntKind) : xg (.pv (.int k i)) = some i.toNat := by
 unfold qd at h; split at h
 ·rename_i h0; simp [xg,h0]
 ·cases h
theorem qgd (k : IntKind) {n : Int} (h : 0 ≤ n) : xg (.pv (.int k n)) = some n.toNat := by simp [xg,h]
theorem qbv (h : qd l i = some x) : l[i.toNat]? = some x := by
 unfold qd at h; split at h
 ·exact h
 ·cases h
theorem qh4 {β : Type} (e : α → β) (h : qd l i = some x) : (List.map e l)[i.toNat]? = some (e x) := by simp [qbv h]
theorem qqj (h : qd l i = some x) : l.isEmpty = false := by
 have := qbv h; cases l <;> simp_all
theorem qo8 (h : qd l i = some x) (k : Nat) : szc k l = k := by
 have := qbv h; cases l <;> simp_all [szc]
theorem zcb (h : qd l i = some x) (k : Nat) : (szc k l = k) = True := by simp [qo8 h]
theorem qnt (h : qd l i = some x) : (i.toNat < l.length) = True := by
 have := qbv h; simp only [eq_iff_iff,iff_true]; exact (List.getElem?_eq_some_iff.1 this).1
theorem qj7 (h : sub2 l lo hi = some r) (k : IntKind) : xg (.pv (.int k lo)) = some lo.toNat := by
 unfold sub2 at h; split at h
 ·rename_i h0; simp [xg,h0.1.1]
 ·cases h
theorem qml (h : sub2 l lo hi = some r) (k : IntKind) : xg (.pv (.int k hi)) = some hi.toNat := by
 unfold sub2 at h; split at h
 ·rename_i h0; simp [xg,h0.1.2]
 ·cases h
theorem qkg (h : sub2 l lo hi = some r) : (lo.toNat ≤ hi.toNat) = True := by
 unfold sub2 at h; split at h
 ·rename_i h0; simp [h0.2.1]
 ·cases h
theorem qox (h : sub2 l lo hi = some r) : (hi.toNat ≤ l.length) = True := by
 unfold sub2 at h; split at h
 ·rename_i h0; simp [h0.2.2]
 ·cases h
theorem qaj (h : sub2 l lo hi = some r) : (l.take hi.toNat).drop lo.toNat = r := by
 unfold sub2 at h; split at h <;> simp_all
theorem qil (h : jf l lo = some r) (k : IntKind) : xg (.pv (.int k lo)) = some lo.toNat := by
 unfold jf at h; split at h
 ·rename_i h0; simp [xg,h0.1]
 ·cases h
theorem qmc (h : jf l lo = some r) : (lo.toNat ≤ l.length) = True := by
 unfold jf at h; split at h
 ·rename_i h0; simp [h0.2]
 ·cases h
theorem qft (h : jf l lo = some r) : l.drop lo.toNat = r := by
 unfold jf at h; split at h <;> simp_all
theorem z6x (h : yh l hi = some r) (k : IntKind) : xg (.pv (.int k hi)) = some hi.toNat := by
 unfold yh at h; split at h
 ·rename_i h0; simp [xg,h0.1]
 ·cases h
theorem zr7 (h : yh l hi = some r) : (hi.toNat ≤ l.length) = True := by
 unfold yh at h; split at h
 ·rename_i h0; simp [h0.2]
 ·cases h
theorem qny (h : yh l hi = some r) : l.take hi.toNat = r := by
 unfold yh at h; split at h <;> simp_all
theorem zb8 {β : Type} (e : α → β) (h : sub2 l lo hi = some r) : ((List.map e l).take hi.toNat).drop lo.toNat = List.map e r := by rw [← List.map_take,← List.map_drop,qaj h]
theorem zmp {β : Type} (e : α → β) (h : jf l lo = some r) : (List.map e l).drop lo.toNat = List.map e r := by rw [← List.map_drop,qft h]
theorem qqq {β : Type} (e : α → β) (h : yh l hi = some r) : (List.map e l).take hi.toNat = List.map e r := by rw [← List.map_take,qny h]
theorem z9u (h : sub2 l lo hi = some r) (k : Nat) : szc (szc k l) r = szc k r := by
 have := qaj h
 cases r with
 | nil => rfl
 | cons => cases l <;> simp_all [szc]
theorem zou (h : jf l lo = some r) (k : Nat) : szc (szc k l) r = szc k r := by
 have := qft h
 cases r with
 | nil => rfl
 | cons => cases l <;> simp_all [szc]
theorem zrk (h : yh l hi = some r) (k : Nat) : szc (szc k l) r = szc k r := by
 have := qny h
 cases r with
 | nil => rfl
 | cons => cases l <;> simp_all [szc]
theorem qvj {β : Type} (k : Nat) (e : α → β) (l : List α) : szc k (List.map e l) = szc k l := by cases l <;> rfl
theorem zht (k : Nat) (l : List α) : szc (szc k l) l = szc k l := by cases l <;> rfl
theorem zb (k : Nat) : szc k ([] : List α) = 0 := rfl
theorem qjy (k : Nat) (x : α) (l : List α) : szc k (x :: l) = k := rfl
theorem qjf (k : Nat) (l : List α) (x : α) (r : List α) : szc k (l ++ x :: r) = k := by cases l <;> rfl
theorem qmv (k : Nat) (l : List α) (i : Nat) (x : α) : szc k (l.set i x) = szc k l := by cases l <;> cases i <;> rfl
theorem zr2 {β : Type} (e : α → β) (l : List α) : (List.map e l).isEmpty = l.isEmpty := by cases l <;> rfl
theorem qpu (l : List α) (x : α) (r : List α) : (l ++ x :: r).isEmpty = false := by cases l <;> rfl
theorem qm9 (l : List α) (i : Nat) (x : α) : (l.set i x).isEmpty = l.isEmpty := by cases l <;> cases i <;> rfl
theorem qog (x : α) (l : List α) : (x :: l).isEmpty = false := rfl
theorem qjz : ([] : List α).isEmpty = true := rfl
theorem xc {β : Type} (k : Nat) (e : α → β) (l : List α) : (szc k l = k ∨ List.map e l = []) = True := by cases l <;> simp [szc]
theorem take_len {β : Type} (e : α → β) (l : List α) : (List.map e l).take l.length = List.map e l := by rw [← List.map_take,List.take_length]
theorem q31 {β : Type} (e : α → β) (l r : List α) : List.map e l ++ List.map e r = List.map e (l ++ r) := by simp
theorem map_set {β : Type} (e : α → β) (l : List α) (i : Nat) (x : α) : (List.map e l).set i (e x) = List.map e (l.set i x) := by simp [List.map_set]
theorem zr9 (s : Bytes) : List.map (fun b => [PV.int .u8 (b.toNat : Int)]) s = List.map ql s := rfl
theorem bytesOf_map : ∀ s : Bytes,bytesOf (List.map ql s) = some s
 | [] => rfl
 | b :: s => by simp [ql,bytesOf,bytesOf_map s]
theorem ze (b : UInt8) : u8 (b.toNat : Int) = b := by simp [u8]
theorem z8 (n : Int) : ((u8 (IntKind.u8.wrap n)).toNat : Int) = IntKind.u8.wrap n := by
 have h : 0 ≤ IntKind.u8.wrap n ∧ IntKind.u8.wrap n < 256 := by
  simp only [IntKind.wrap,IntKind.bits,IntKind.signed]
  constructor
  ·simp; omega
  ·simp; omega
 simp only [u8,UInt8.toNat_ofNat']
 omega
theorem z8k : List.range 1 = [0] := rfl
theorem z4r : List.range 2 = [0,1] := rfl
theorem qz7 : List.range 3 = [0,1,2] := rfl
theorem z3n : List.range 4 = [0,1,2,3] := rfl
theorem zhw : List.range 5 = [0,1,2,3,4] := rfl
theorem qv5 : List.range 6 = [0,1,2,3,4,5] := rfl
def gy (te : TI) (β L n : Nat) (src : List (List PV)) (nx : Nat) : Option Blk → Option Eff
 | some (.row true _ es) => if L = es.length ∧ n = 0 then ym te (.row β L 0 n) src β nx nx else none
 | some (.row false sz es) =>
  if L = es.length ∧ sz = te.size ∧ qj (n + src.length) te.bytes = true then
   if n = es.length then some (.row β (es ++ src).length 0 (es ++ src).length,[(β,.row false te.size (es ++ src))],nx)
   else some (.row β (es.take n ++ src ++ es.drop (n + src.length)).length 0 (n + src.length),[(β,.row false te.size (es.take n ++ src ++ es.drop (n + src.length)))],nx)
  else none
 | _ => none
theorem qrx (te : TI) (β L n nx sz : Nat) (es src : List (List PV)) : gy te β L n src nx (some (.row false sz es)) =
  if L = es.length ∧ sz = te.size ∧ qj (n + src.length) te.bytes = true then
   if n = es.length then some (.row β (es ++ src).length 0 (es ++ src).length,[(β,.row false te.size (es ++ src))],nx)
   else some (.row β (es.take n ++ src ++ es.drop (n + src.length)).length 0 (n + src.length),[(β,.row false te.size (es.take n ++ src ++ es.drop (n + src.length)))],nx)
  else none := rfl
theorem z2y (te : TI) (β L n nx sz : Nat) (es src : List (List PV)) : gy te β L n src nx (some (.row true sz es)) = if L = es.length ∧ n = 0 then ym te (.row β L 0 n) src β nx nx else none := rfl
def qeq (te : TI) (β L n : Nat) (H : Heap) (nx : Nat) : Option (Nat × List (List PV)) → Option Eff
 | none => none
 | some (xsz,src) => if (xsz = te.size ∨ src = []) ∧ 0 < te.size then gy te β L n src nx (H.get β) else none
theorem zhm (te : TI) (β L n : Nat) (x : AV) (H : Heap) (nx : Nat) : mi te (.row β L 0 n) x H nx = qeq te β L n H nx (yz x H) := by
 unfold mi qeq
 cases yz x H with
 | none => rfl
 | some p =>
  obtain ⟨xsz,src⟩ := p
  simp only
  split
  ·unfold gy
   cases H.get β with
   | none => rfl
   | some b =>
    cases b with
    | row isnil sz es => cases isnil <;> simp
    | _ => rfl
  ·rfl
theorem zrr (te : TI) (sz : Nat) (es : List (List PV)) (x : AV) (H : Heap) (nx : Nat) : mi te (.pv (.sl true sz es)) x H nx =
  match yz x H with
  | none => none
  | some (xsz,src) => if (xsz = te.size ∨ src = []) ∧ 0 < te.size then ym te (.pv (.sl true sz es)) src nx nx (nx + 1) else none := rfl
theorem znd (te : TI) (x : AV) (H : Heap) (nx : Nat) : mi te .zsl x H nx =
  match yz x H with
  | none => none
  | some (xsz,src) => if (xsz = te.size ∨ src = []) ∧ 0 < te.size then ym te .zsl src nx nx (nx + 1) else none := rfl
theorem qfy (te : TI) (β k nx : Nat) (e : α → List PV) (l : List α) (c : List PV) (src : List (List PV)) (hk : k = te.size) (hr : qj (l.length + (c :: src).length) te.bytes = true) :
  gy te β l.length l.length (c :: src) nx (some (.row l.isEmpty (szc k l) (List.map e l))) =
   some (.row β (List.map e l ++ c :: src).length 0 (List.map e l ++ c :: src).length,[(β,.row false k (List.map e l ++ c :: src))],nx) := by
 subst hk
 cases l with
 | nil =>
  have hr' : qj (src.length + 1) te.bytes = true := by simpa using hr
  simp [gy,ym,hr']
 | cons a l =>
  have hr' : qj (l.length + 1 + (src.length + 1)) te.bytes = true := by simpa using hr
  simp [gy,szc,hr']
theorem qui {γ : Type} (te : TI) (β k nx : Nat) (e : α → List PV) (e' : γ → List PV) (l : List α) (s : List γ) (hs : (l.isEmpty && s.isEmpty) = false) (hk : k = te.size) (hr : qj (l.length + s.length) te.bytes = true) :
  gy te β l.length l.length (List.map e' s) nx (some (.row l.isEmpty (szc k l) (List.map e l))) =
   some (.row β (List.map e l ++ List.map e' s).length 0 (List.map e l ++ List.map e' s).length,[(β,.row false k (List.map e l ++ List.map e' s))],nx) := by
 subst hk
 cases l with
 | nil =>
  cases s with
  | nil => simp at hs
  | cons c s =>
   have hr' : qj (s.length + 1) te.bytes = true := by simpa using hr
   simp [gy,ym,hr']
 | cons a l =>
  have hr' : qj (l.length + 1 + s.length) te.bytes = true := by simpa using hr
  simp [gy,szc,hr']
theorem z4x {γ : Type} (te : TI) (β k nx : Nat) (e : α → List PV) (e' : γ → List PV) (l : List α) (s : List γ) (hs : (l.isEmpty && s.isEmpty) = true) :
  gy te β l.length l.length (List.map e' s) nx (some (.row l.isEmpty (szc k l) (List.map e l))) = some (.row β l.length 0 l.length,[],nx) := by
 cases l with
 | nil =>
  cases s with
  | nil => simp [gy,ym]
  | cons c s => simp at hs
 | cons a l => simp at hs
theorem qm4 {γ : Type} {l s : List γ} (h : (l.isEmpty && s.isEmpty) = false) : (l ++ s).isEmpty = false := by cases l <;> cases s <;> simp_all
theorem q87 {γ : Type} {l s : List γ} (h : (l.isEmpty && s.isEmpty) = false) (k : Nat) : szc k (l ++ s) = k := by cases l <;> cases s <;> simp_all [szc]
end
structure zg where
 es : List (Int × Int × Nat)
 clock : Nat
 deriving Inhabited
def jv (e : Int × Int × Nat) : PV × PV × Nat := (.int .i64 e.1,.int .i64 e.2.1,e.2.2)
def zn (k : Int) : List (Int × Int × Nat) → Nat → Option (Nat × Int × Nat)
 | [],_ => none
 | (x,v,b) :: r,i => if k == x then some (i,v,b) else zn k r (i + 1)
def q71 (m : zg) (k : Int) : Bool := (zn k m.es 0).isSome
def je (m : zg) (k : Int) : Int := match zn k m.es 0 with | some (_,v,_) => v | none => 0
def wo (m : zg) (k v : Int) : zg := match zn k m.es 0 with | some (i,_,b) => ⟨m.es.set i (k,v,b),m.clock⟩ | none => ⟨m.es ++ [(k,v,m.clock)],m.clock + 1⟩
def mf (m : zg) (k : Int) : zg := match zn k m.es 0 with | some (i,_,_) => ⟨m.es.eraseIdx i,m.clock⟩ | none => m
theorem qe5 (k : Int) : ∀ (l : List (Int × Int × Nat)) (i : Nat),findKey (.int .i64 k) (List.map jv l) i = some ((zn k l i).map fun x => (x.1,.int .i64 x.2.1,x.2.2))
 | [],i => rfl
 | (x,v,b) :: r,i => by
  simp only [List.map_cons,jv,findKey,qcx,zn,if_true]
  cases h : (k == x) with
  | true => simp
  | false => simp only [qe5 k r (i + 1)]; simp
theorem qhr {α β : Type} (e : α → β) : ∀ (l : List α) (i : Nat),(List.map e l).eraseIdx i = List.map e (l.eraseIdx i)
 | [],i => by simp
 | x :: l,0 => rfl
 | x :: l,i + 1 => by simp [qhr e l i]
def qf0 (te : TI) (k : PV) (ok : Bool) : Option Blk → Option AV
 | some (.map es _) => match findKey k es 0 with
  | some (some (_,v,_)) => some (if ok then .tup [.pv v,.pv (.bool true)] else .pv v)
  | some none => some (if ok then .tup [.pv (q0e te),.pv (.bool false)] else .pv (q0e te))
  | none => none
 | _ => none
def qdm (β : Nat) (k v : PV) : Option Blk → Option (List (Nat × Blk))
 | some (.map es clock) => match findKey k es 0 with
  | some (some (i,_,born)) => some [(β,.map (es.set i (k,v,born)) clock)]
  | some none => some [(β,.map (es ++ [(k,v,clock)]) (clock + 1))]
  | none => none
 | _ => none
def zqi (te : TI) (β : Nat) (k : PV) : Option Blk → Option (AV × List (Nat × Blk))
 | some (.map es clock) => match findKey k es 0 with
  | some (some (i,v,born)) => some (.tup [.pv v,.pv (.int .i64 born)],[(β,.map (es.set i (k,v,born)) clock)])
  | some none => some (.tup [.pv (q0e te),.pv (.int .i64 clock)],[(β,.map (es ++ [(k,q0e te,clock)]) (clock + 1))])
  | none => none
 | _ => none
def zk7 (β : Nat) (born : Int) (v : PV) : Option Blk → Option (List (Nat × Blk))
 | some (.map es clock) => match qbp born es 0 with
  | some (i,k,b) => some [(β,.map (es.set i (k,v,b)) clock)]
  | none => none
 | _ => none
def qe9 (β : Nat) (k : PV) : Option Blk → Option (List (Nat × Blk))
 | some (.map es clock) => match findKey k es 0 with
  | some (some (i,_,_)) => some [(β,.map (es.eraseIdx i) clock)]
  | some none => some [(β,.map es clock)]
  | none => none
 | _ => none
theorem qtd (tk te : TI) (β : Nat) (k : PV) (ok : Bool) (H : Heap) : q53 tk te (.map β) (.pv k) ok H = if xw tk.td k = true then qf0 te k ok (H.get β) else none := by
 unfold q53 q6g
 simp only
 split
 ·cases H.get β with
  | none => rfl
  | some b => cases b <;> rfl
 ·rfl
theorem zgm (tk : TI) (β : Nat) (k v : PV) (H : Heap) : q1a tk (.map β) (.pv k) v H = if xw tk.td k = true then qdm β k v (H.get β) else none := by
 unfold q1a
 simp only
 split
 ·cases H.get β with
  | none => rfl
  | some b => cases b <;> rfl
 ·rfl
theorem qvk (tk te : TI) (β : Nat) (k : PV) (H : Heap) : q2w tk te (.map β) (.pv k) H = if xw tk.td k = true then zqi te β k (H.get β) else none := by
 unfold q2w
 simp only
 split
 ·cases H.get β with
  | none => rfl
  | some b => cases b <;> rfl
 ·rfl
theorem qzr (β : Nat) (kd : IntKind) (born : Int) (v : PV) (H : Heap) : q1v (.map β) (.pv (.int kd born)) v H = zk7 β born v (H.get β) := by
 unfold q1v
 simp only
 cases H.get β with
 | none => rfl
 | some b => cases b <;> rfl
theorem qxb (tk : TI) (β : Nat) (k : PV) (H : Heap) : q2a tk (.map β) (.pv k) H = if xw tk.td k = true then qe9 β k (H.get β) else none := by
 unfold q2a
 simp only
 split
 ·cases H.get β with
  | none => rfl
  | some b => cases b <;> rfl
 ·rfl
section
variable (b : Bool) (β : Nat) (m : zg) (k : Int)
theorem znh : qf0 ⟨1,8,.int .i64,[.int .i64 0],b⟩ (.int .i64 k) false (some (.map (List.map jv m.es) m.clock)) = some (.pv (.int .i64 (je m k))) := by
 simp only [qf0,qe5,je]
 cases zn k m.es 0 <;> simp [q0e,TI.isAgg]
theorem zeo (v : Int) : qdm β (.int .i64 k) (.int .i64 v) (some (.map (List.map jv m.es) m.clock)) = some [(β,.map (List.map jv (wo m k v).es) (wo m k v).clock)] := by
 simp only [qdm,qe5,wo]
 cases zn k m.es 0 <;> simp [jv,List.map_set]
theorem zce : qe9 β (.int .i64 k) (some (.map (List.map jv m.es) m.clock)) = some [(β,.map (List.map jv (mf m k).es) (mf m k).clock)] := by
 simp only [qe9,qe5,mf]
 cases h : zn k m.es 0 <;> simp [qhr]
end
def q66 (m : zg) : Option (List Int) := if qe6 (m.es.map (·.1)) (m.es.map (·.2.2)) m.clock then some (xx (m.es.map (·.1))) else none
theorem qpp : ∀ l : List (Int × Int × Nat),q6a (List.map jv l) = some (l.map (·.1))
 | [] => rfl
 | x :: r => by simp [jv,q6a,qpp r]
theorem qpz : ∀ l : List (Int × Int × Nat),q13 (List.map jv l) = l.map (·.2.2)
 | [] => rfl
 | x :: r => by simp [jv,q13,qpz r]
theorem zd0 {m : zg} {r : List Int} (h : q66 m = some r) (fk : FuncId) :
  q8x fk [.clo fk [] [.ptr 0 0]] [(0,.box [.map 1]),(1,.map (List.map jv m.es) m.clock)] = some (.row 2 r.length 0 r.length,[(0,.box [.map 1]),(1,.map (List.map jv m.es) m.clock),(2,.row r.isEmpty (szc 1 r) (List.map qb r))]) := by
 unfold q66 at h
 split at h
 ·rename_i hf
  cases h
  simp only [q8x,qpp,qpz,hf,true_and,if_true]
  rfl
 ·cases h
theorem qiz (k : Int) : ∀ (l : List (Int × Int × Nat)) (e : Int × Int × Nat) (i : Nat),zn k (l ++ [e]) i = match zn k l i with | some x => some x | none => if k == e.1 then some (i + l.length,e.2.1,e.2.2) else none
 | [],e,i => by simp [zn]
 | (x,v,b) :: r,e,i => by
  simp only [List.cons_append,zn]
  split
  ·rfl
  ·rw [qiz k r e (i + 1)]
   simp only [List.length_cons]
   have : i + 1 + r.length = i + (r.length + 1) := by omega
   rw [this]
theorem qi0 (k k' : Int) (v : Int) : ∀ (l : List (Int × Int × Nat)) (i j : Nat) (w : Int) (b : Nat),zn k l i = some (i + j,w,b) →
  zn k' (l.set j (k,v,b)) i = if k' == k then some (i + j,v,b) else zn k' l i
 | [],i,j,w,b,h => by simp [zn] at h
 | (x,u,c) :: r,i,j,w,b,h => by
  simp only [zn] at h
  split at h
  ·rename_i hk
   simp only [Option.some.injEq,Prod.mk.injEq] at h
   obtain ⟨h1,rfl,rfl⟩ := h
   have : j = 0 := by omega
   subst this
   simp only [beq_iff_eq] at hk
   subst hk
   simp only [List.set_cons_zero,zn,Nat.add_zero]
   by_cases e : k' = k <;> simp [e]
  ·rename_i hk
   have hge : ∀ (l : List (Int × Int × Nat)) (n m : Nat) (w : Int) (b : Nat),zn k l n = some (m,w,b) → n ≤ m := by
    intro l
    induction l with
    | nil => intro n m w b h; simp [zn] at h
    | cons y r ih =>
     intro n m w b h
     simp only [zn] at h
     split at h
     ·cases h; exact Nat.le_refl _
     ·have := ih (n + 1) m w b h; omega
   have := hge r (i + 1) (i + j) w b h
   obtain ⟨j',rfl⟩ : ∃ j',j = j' + 1 := ⟨j - 1,by omega⟩
   have h' : zn k r (i + 1) = some (i + 1 + j',w,b) := by rw [h]; congr 2; omega
   have ih := qi0 k k' v r (i + 1) j' w b h'
   simp only [List.set_cons_succ,zn,ih]
   by_cases e1 : k' = x
   ·subst e1
    have : (k == k') = false := by simpa using hk
    have h2 : (k' == k) = false := by simp at this ⊢; exact fun h => this h.symm
    simp [h2]
   ·have : (k' == x) = false := by simpa using e1
    simp only [this,Bool.false_eq_true,if_false]
    have : i + 1 + j' = i + (j' + 1) := by omega
    rw [this]
theorem zd1 (m : zg) (k v k' : Int) : zn k' (wo m k v).es 0 = if k' == k then some (((zn k (wo m k v).es 0).getD (0,0,0)).1,v,((zn k (wo m k v).es 0).getD (0,0,0)).2.2) else zn k' m.es 0 := by
 unfold wo
 cases h : zn k m.es 0 with
 | none =>
  simp only [qiz,h]
  by_cases e : k' = k
  ·subst e; simp [h]
  ·have : (k' == k) = false := by simpa using e
   simp only [this,Bool.false_eq_true,if_false]
   cases zn k' m.es 0 <;> rfl
 | some x =>
  obtain ⟨i,w,b⟩ := x
  have h' : zn k m.es 0 = some (0 + i,w,b) := by simpa using h
  simp only [qi0 k k' v m.es 0 i w b h',qi0 k k v m.es 0 i w b h']
  by_cases e : k' = k <;> simp [e]
theorem zd5 (m : zg) (k v k' : Int) : q71 (wo m k v) k' = if k' = k then true else q71 m k' := by
 unfold q71
 rw [zd1]
 by_cases e : k' = k <;> simp [e]
theorem zq {α : Type} {l : List α} {n : Nat} (h : n < l.length) : qd l (n : Int) = some l[n] := by simp [qd,h]
theorem z3m {α β : Type} (f : α → β) (a : α) (l : List α) : List.map f (a :: l) = f a :: List.map f l := rfl
theorem z2m {α β : Type} (f : α → β) : List.map f ([] : List α) = [] := rfl
theorem ze7 {α : Type} : ([] : List α).length = 0 := rfl
theorem zpt {α : Type} (a : α) (l : List α) : (a :: l).length = l.length + 1 := rfl
theorem qye {α : Type} (l : List α) (x : α) : (l.length < (l ++ [x]).length) = True := by simp
theorem zg4 {α β : Type} (f : α → β) (l : List α) (x : β) : (l.length < (List.map f l ++ [x]).length) = True := by simp
theorem qno {α : Type} (l : List α) (i : Nat) (x : α) : (l.set i x).length = l.length := List.length_set
def zic := PLift.up (And.intro @z3m (And.intro @z2m (And.intro @ze7 (And.intro @zpt (And.intro @zb (And.intro @qjy (And.intro @qjf (And.intro @qmv (And.intro @qjz (And.intro @qog (And.intro @qpu (And.intro @qm9 (And.intro @qno (And.intro @ze @z8))))))))))))))
theorem qxn {α : Type} {P : Program} {t : TypeId} {e : α → List PV} {ok : α → Prop} {n : Nat} (h : Reads P t e ok n) : Reads P t e (fun _ => True) n := h.map (fun x => x) (fun _ _ => ⟨trivial,rfl⟩)
def q07 {α : Type} (_ : α) : Prop := True
def inI (n : Int) : Prop := -9223372036854775808 ≤ n ∧ n ≤ 9223372036854775807
def yj (s : Bytes) : Prop := s.length ≤ maxLen
def yn {α : Type} (ok : α → Prop) (s : Sl α) : Prop := (s.l.length ≤ maxLen ∧ (s.nil = true → s.l = [])) ∧ ∀ a ∈ s.l,ok a
theorem drop_cons {α : Type} {xs : List α} {i : Nat} {x : α} {r : List α} (h : xs.drop i = x :: r) : xs[i]? = some x ∧ xs.drop (i + 1) = r ∧ i < xs.length := by
 have h1 : xs[i]? = some x := by
  have := congrArg (fun l => l[0]?) h
  simpa using this
 have h2 : xs.drop (i + 1) = r := by
  have := congrArg (fun l => l.drop 1) h
  simpa [List.drop_drop] using this
 exact ⟨h1,h2,(List.getElem?_eq_some_iff.1 h1).1⟩
theorem ny {α : Type} {xs : List α} {i : Nat} (h : xs.drop i = []) : xs.length ≤ i := by simpa using h
theorem q9 {n : Int} (h1 : -9223372036854775808 ≤ n) (h2 : n ≤ 9223372036854775807) : IntKind.i64.wrap n = n := IntWalk.i64_in n ⟨h1,h2⟩
theorem wy {n : Nat} (h : n < 9223372036854775807) : IntKind.i64.wrap ((n : Int) + 1) = ((n + 1 : Nat) : Int) := q9 (by omega) (by omega)
theorem z6p (b : Bool) : AV.cells (.pv (.bool b)) = [(.pv (.bool b))] := rfl
theorem zrm (k : IntKind) (n : Int) : AV.cells (.pv (.int k n)) = [(.pv (.int k n))] := rfl
theorem z5x (l : List UInt8) : AV.cells (.pv (.str l)) = [(.pv (.str l))] := rfl
theorem qzv (a : Bool) (b : Nat) (c : List (List PV)) : AV.cells (.pv (.sl a b c)) = [(.pv (.sl a b c))] := rfl
theorem zpi : AV.cells (.pv (.nilptr)) = [(.pv (.nilptr))] := rfl
theorem qz5 : AV.cells (.pv (.nilfn)) = [(.pv (.nilfn))] := rfl
theorem qq4 : AV.cells (.pv (.nilmap)) = [(.pv (.nilmap))] := rfl
theorem z3l : AV.cells (.pv (.nilif)) = [(.pv (.nilif))] := rfl
theorem qr9 (f : FuncId) : AV.cells (.pv (.fn f)) = [(.pv (.fn f))] := rfl
theorem zqg (c : List PV) : AV.cells (.pv (.rp c)) = [(.pv (.rp c))] := rfl
theorem zpl (c : List PV) : AV.cells (.pv (.agg c)) = c.map .pv := rfl
theorem zei (x y : Nat) : AV.cells (.ptr x y) = [(.ptr x y)] := rfl
theorem qyu (x y z u : Nat) : AV.cells (.eptr x y z u) = [(.eptr x y z u)] := rfl
theorem qwa (c : List PV) (x : Nat) : AV.cells (.rptr c x) = [(.rptr c x)] := rfl
theorem zk8 (x y z u : Nat) : AV.cells (.row x y z u) = [(.row x y z u)] := rfl
theorem qrm : AV.cells (.zsl) = [(.zsl)] := rfl
theorem z5y (x : Nat) : AV.cells (.map x) = [(.map x)] := rfl
theorem zg5 (f : FuncId) (a b : List AV) : AV.cells (.clo f a b) = [(.clo f a b)] := rfl
theorem z6n (l : List AV) : AV.cells (.tup l) = [(.tup l)] := rfl
theorem zhb (c : List AV) : AV.cells (.agg c) = c := rfl
abbrev v_i (n : Int) : AV := .pv (.int .i64 n)
abbrev v_b (b : Bool) : AV := .pv (.bool b)
abbrev v_s (s : Bytes) : AV := .pv (.str s)
abbrev v_g (l : List PV) : AV := .pv (.agg l)
abbrev v_l {α : Type} (k : Nat) (e : α → List PV) (s : Sl α) : AV := .pv (.sl s.nil (szc k s.l) (List.map e s.l))
abbrev v_r {α : Type} (β : Nat) (l : List α) : AV := .row β l.length 0 l.length
abbrev b_x (l : List PV) : Blk := .box (List.map .pv l)
abbrev b_r {α : Type} (k : Nat) (e : α → List PV) (l : List α) : Blk := .row l.isEmpty (szc k l) (List.map e l)
abbrev b_m (m : zg) : Blk := .map (List.map jv m.es) m.clock
theorem qur (n : Int) : v_i n = .pv (.int .i64 n) := rfl
theorem z8l (b : Bool) : v_b b = .pv (.bool b) := rfl
theorem z0f (s : Bytes) : v_s s = .pv (.str s) := rfl
theorem z4j (l : List PV) : v_g l = .pv (.agg l) := rfl
theorem qwd {α : Type} (k : Nat) (e : α → List PV) (s : Sl α) : v_l k e s = .pv (.sl s.nil (szc k s.l) (List.map e s.l)) := rfl
theorem z8m {α : Type} (β : Nat) (l : List α) : v_r β l = .row β l.length 0 l.length := rfl
theorem zpr (l : List PV) : b_x l = .box (List.map .pv l) := rfl
theorem zab {α : Type} (k : Nat) (e : α → List PV) (l : List α) : b_r k e l = .row l.isEmpty (szc k l) (List.map e l) := rfl
theorem qwn (m : zg) : b_m m = .map (List.map jv m.es) m.clock := rfl
theorem zp4 (b : UInt8) : ql b = [.int .u8 b.toNat] := rfl
theorem qsm (n : Int) : qb n = [.int .i64 n] := rfl
theorem z9a (s : Bytes) : qh s = [.str s] := rfl
theorem qqx (b : Bool) : ql1 b = [.bool b] := rfl
theorem zqq (k : IntKind) (n : Int) : kE k n = [.int k n] := rfl
theorem zlf {α : Type} (k : Nat) (e : α → List PV) (s : Sl α) : slE k e s = [.sl s.nil (szc k s.l) (List.map e s.l)] := rfl
theorem zh9 {α : Type} (e : α → List PV) (s : α × α) : qjh e s = e s.1 ++ e s.2 := rfl
def znr := PLift.up (And.intro @qur (And.intro @z8l (And.intro @z0f (And.intro @z4j (And.intro @qwd (And.intro @z8m (And.intro @zpr (And.intro @zab (And.intro @qwn (And.intro @zp4 (And.intro @qsm (And.intro @z9a (And.intro @qqx (And.intro @zqq (And.intro @zlf @zh9)))))))))))))))
section
variable {α β : Type} {r : β} {P : Prop}
theorem bs {o : Option α} {k : α → Option β} (f : ∀ x,o = some x → k x = some r → P) (h : o >>= k = some r) : P := by
 obtain ⟨x,h1,h2⟩ := Option.bind_eq_some_iff.1 h
 exact f x h1 h2
theorem it {b : Bool} {p q : Option β} (f : b = true → p = some r → P) (g : b = false → q = some r → P) (h : (if b = true then p else q) = some r) : P := by
 cases b
 ·exact g rfl h
 ·exact f rfl h
theorem gd {Q : Prop} [Decidable Q] {p : Option β} (f : Q → p = some r → P) (h : (if Q then p else none) = some r) : P := by
 split at h
 ·exact f ‹_› h
 ·cases h
variable {l : List α} {i lo hi : Int}
theorem bg {k : α → Option β} (e : α → List PV) (f : ∀ x,qd l i = some x → (∀ kd,xg (.pv (.int kd i)) = some i.toNat) → (List.map e l)[i.toNat]? = some (e x) → (∀ z,(szc z l = z) = True) → k x = some r → P) (h : qd l i >>= k = some r) : P :=
 bs (fun x hx => f x hx (qe7 hx) (qh4 e hx) (zcb hx)) h
theorem bw {k : α → Option β} (e : α → List PV) (f : ∀ x,qd l i = some x → (∀ kd,xg (.pv (.int kd i)) = some i.toNat) → (List.map e l)[i.toNat]? = some (e x) → (i.toNat < l.length) = True → k x = some r → P) (h : qd l i >>= k = some r) : P :=
 bs (fun x hx => f x hx (qe7 hx) (qh4 e hx) (qnt hx)) h
theorem bW {k : α → Option β} (e : α → List PV) (z : Nat) (f : ∀ x,qd l i = some x → (∀ kd,xg (.pv (.int kd i)) = some i.toNat) → (List.map e l)[i.toNat]? = some (e x) → (i.toNat < l.length) = True → l.isEmpty = false → szc z l = z → k x = some r → P) (h : qd l i >>= k = some r) : P :=
 bs (fun x hx => f x hx (qe7 hx) (qh4 e hx) (qnt hx) (qqj hx) (qo8 hx z)) h
theorem bc {k : α → Option β} (f : ∀ x,qd l i = some x → (∀ kd,xg (.pv (.int kd i)) = some i.toNat) → l[i.toNat]? = some x → k x = some r → P) (h : qd l i >>= k = some r) : P :=
 bs (fun x hx => f x hx (qe7 hx) (qbv hx)) h
variable {k : List α → Option β}
theorem b2s (f : ∀ x,sub2 l lo hi = some x → (∀ kd,xg (.pv (.int kd lo)) = some lo.toNat) → (∀ kd,xg (.pv (.int kd hi)) = some hi.toNat) → (lo.toNat ≤ hi.toNat) = True → (hi.toNat ≤ l.length) = True → (l.take hi.toNat).drop lo.toNat = x → k x = some r → P) (h : sub2 l lo hi >>= k = some r) : P :=
 bs (fun x hx => f x hx (qj7 hx) (qml hx) (qkg hx) (qox hx) (qaj hx)) h
theorem b2 (e : α → List PV) (f : ∀ x,sub2 l lo hi = some x → (∀ kd,xg (.pv (.int kd lo)) = some lo.toNat) → (∀ kd,xg (.pv (.int kd hi)) = some hi.toNat) → (lo.toNat ≤ hi.toNat) = True → (hi.toNat ≤ l.length) = True → ((List.map e l).take hi.toNat).drop lo.toNat = List.map e x → (∀ z,szc (szc z l) x = szc z x) → k x = some r → P) (h : sub2 l lo hi >>= k = some r) : P :=
 bs (fun x hx => f x hx (qj7 hx) (qml hx) (qkg hx) (qox hx) (zb8 e hx) (z9u hx)) h
theorem bFs (f : ∀ x,jf l lo = some x → (∀ kd,xg (.pv (.int kd lo)) = some lo.toNat) → (lo.toNat ≤ l.length) = True → l.drop lo.toNat = x → k x = some r → P) (h : jf l lo >>= k = some r) : P :=
 bs (fun x hx => f x hx (qil hx) (qmc hx) (qft hx)) h
theorem bF (e : α → List PV) (f : ∀ x,jf l lo = some x → (∀ kd,xg (.pv (.int kd lo)) = some lo.toNat) → (lo.toNat ≤ l.length) = True → (List.map e l).drop lo.toNat = List.map e x → (∀ z,szc (szc z l) x = szc z x) → k x = some r → P) (h : jf l lo >>= k = some r) : P :=
 bs (fun x hx => f x hx (qil hx) (qmc hx) (zmp e hx) (zou hx)) h
theorem bT (e : α → List PV) (f : ∀ x,yh l hi = some x → (∀ kd,xg (.pv (.int kd hi)) = some hi.toNat) → (hi.toNat ≤ l.length) = True → (List.map e l).take hi.toNat = List.map e x → (∀ z,szc (szc z l) x = szc z x) → k x = some r → P) (h : yh l hi >>= k = some r) : P :=
 bs (fun x hx => f x hx (z6x hx) (zr7 hx) (qqq e hx) (zrk hx)) h
variable {s : List α}
theorem rG (k : Nat) (e : α → List PV) (l : List α) (te : TI) (β nx : Nat) (c : List PV) (hk : k = te.size) (hr : qj (l.length + 1) te.bytes = true) :
  gy te β l.length l.length [c] nx (some (.row l.isEmpty (szc k l) (List.map e l))) = some (.row β (List.map e l ++ [c]).length 0 (List.map e l ++ [c]).length,[(β,.row false k (List.map e l ++ [c]))],nx) := qfy te β k nx e l c [] hk hr
theorem rA (e : α → List PV) (hs : (l.isEmpty && s.isEmpty) = true) (te : TI) (β k nx : Nat) : gy te β l.length l.length (List.map e s) nx (some (.row l.isEmpty (szc k l) (List.map e l))) = some (.row β l.length 0 l.length,[],nx) := z4x te β k nx e e l s hs
theorem rB (e : α → List PV) (hs : (l.isEmpty && s.isEmpty) = false) (te : TI) (β k nx : Nat) (hk : k = te.size) (hr : qj (l.length + s.length) te.bytes = true) :
  gy te β l.length l.length (List.map e s) nx (some (.row l.isEmpty (szc k l) (List.map e l))) = some (.row β (List.map e l ++ List.map e s).length 0 (List.map e l ++ List.map e s).length,[(β,.row false k (List.map e l ++ List.map e s))],nx) := qui te β k nx e e l s hs hk hr
end
section
variable (m : zg) (k v : Int) (b : Bool) (β : Nat)
theorem mG : qf0 ⟨1,8,.int .i64,[.int .i64 0],b⟩ (.int .i64 k) false (some (.map (List.map jv m.es) m.clock)) = some (.pv (.int .i64 (je m k))) := znh b m k
theorem mP : qdm β (.int .i64 k) (.int .i64 v) (some (.map (List.map jv m.es) m.clock)) = some [(β,.map (List.map jv (wo m k v).es) (wo m k v).clock)] := zeo β m k v
theorem mD : qe9 β (.int .i64 k) (some (.map (List.map jv m.es) m.clock)) = some [(β,.map (List.map jv (mf m k).es) (mf m k).clock)] := zce β m k
end
theorem fF {G : GP} {f : FuncId} {S : Special} {nt : Nat} {ob : Option Code} {ra : Array ResultVar} (hfi : G.fn f = some ⟨nt,ra.toList,ob.get!⟩) {c : Code} {rs : List ResultVar} {H : Heap} {args : List AV} {r : Option (AV × Heap)}
  (hs : S.call f = none := by rfl) (hc : ob = some c := by rfl) (hr : ra = ⟨rs⟩ := by rfl) (hk : ky 0 H = true := by rfl)
  (h : qad G f H.length rs (cont G (omega G S) f [.code c] (.normal,⟨q0h 0 args,H,H.length⟩)) = r := by
   simp (maxSteps := 2000000) (disch := first | assumption | rfl | exact qgr.mk (by kernel_rfl)) only [go_sem,↓reduceIte,Nat.reduceLeDiff,Nat.reduceEqDiff,Nat.reduceLT,Nat.reduceAdd,Nat.reduceSub,Nat.reduceMul,reduceCtorEq,Nat.reducePow, *]) :
  (omega G S).call f args H = r := z95 hs hfi hc hr hk h
theorem fL {G : GP} {f : FuncId} {S : Special} {fi : FI} (hfi : G.fn f = some fi) {id : Nat} {c : Code} {s : St} {r : Option (Ex × St)}
  (hc : zu fi.body id = some c := by rfl)
  (h : roundEnd G (omega G S) f id s.nx (cont G (omega G S) f [.code c] (.normal,s)) = r := by
   simp (maxSteps := 2000000) (disch := first | assumption | rfl | exact qgr.mk (by kernel_rfl)) only [go_sem,↓reduceIte,Nat.reduceLeDiff,Nat.reduceEqDiff,Nat.reduceLT,Nat.reduceAdd,Nat.reduceSub,Nat.reduceMul,reduceCtorEq,Nat.reducePow, *]) :
  (omega G S).loop f id s = r := z3w hfi hc h
def refsOf (H : Heap) : List Nat → List Nat
 | [] => []
 | β :: r => (yx H β).refs ++ refsOf H r
theorem qpn (H : Heap) : ∀ d : List Nat,(d.flatMap fun β => (yx H β).refs) = refsOf H d
 | [] => rfl
 | β :: r => by rw [List.flatMap_cons,qpn H r]; rfl
theorem z4s (H : Heap) (d roots : List Nat) : q1r H d roots = match roots,d with
 | [],[] => some ([],[])
 | roots,d => let L := reach H 400 (roots ++ refsOf H d) d
  if q3g roots L && closedIn H L L then some (L,pick H (pos L) 0 L) else none := by
 cases roots <;> cases d <;> first | rfl | simp only [q1r,qpn]
theorem z04 (H : Heap) : jc .ptr (.pv .nilptr) H = some true := rfl
theorem zsu (H : Heap) (β o : Nat) : jc .ptr (.ptr β o) H = some false := rfl
theorem zqf (H : Heap) (c : List PV) (o : Nat) : jc .ptr (.rptr c o) H = some false := rfl
theorem qxy (H : Heap) (β ver i o : Nat) : jc .ptr (.eptr β ver i o) H = some false := rfl
theorem qzy (H : Heap) (c : List PV) : jc .ptr (.pv (.rp c)) H = some false := rfl
theorem zjm (H : Heap) (e : TypeId) (b : Bool) (sz : Nat) (es : List (List PV)) : jc (.slice e) (.pv (.sl b sz es)) H = some b := rfl
theorem zjz (H : Heap) (e : TypeId) : jc (.slice e) .zsl H = some false := rfl
theorem qqa (H : Heap) (e : TypeId) (β ver off n : Nat) : jc (.slice e) (.row β ver off n) H = match H.get β with | some (.row b _ es) => if ver = es.length then some b else none | _ => none := rfl
theorem zr8 (H : Heap) (k e : TypeId) : jc (.map k e) (.pv .nilmap) H = some true := rfl
theorem zau (H : Heap) (k e : TypeId) (β : Nat) : jc (.map k e) (.map β) H = some false := rfl
theorem zo7 (H : Heap) : jc .func (.pv .nilfn) H = some true := rfl
theorem zlx (H : Heap) (f : FuncId) : jc .func (.pv (.fn f)) H = some false := rfl
theorem qxg (H : Heap) (f : FuncId) (a b : List AV) : jc .func (.clo f a b) H = some false := rfl
theorem take_set {α β : Type} (e : α → β) (l : List α) (i : Nat) (x : α) : (List.map e (l.set i x)).take l.length = List.map e (l.set i x) := by
 have h : (l.set i x).length = l.length := List.length_set
 rw [← List.map_take,← h,List.take_length]
end Go.Gm
namespace Go.Gm
open Go
end Go.Gm
