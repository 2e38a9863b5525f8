/-
  The machine, part d.
-/
import Derived.Test.YtdhgdeelagmbpaaGreatQac
set_option linter.unusedSimpArgs false
set_option linter.unusedVariables false
namespace Go.Gm
open Go
abbrev Bytes := List UInt8
structure Sl (α : Type) where
 nil : Bool
 l : List α
 deriving Inhabited,DecidableEq
def qh (s : Bytes) : List PV := [.str s]
def qc (n : Int) : List PV := [.int .i64 n]
def kE (k : IntKind) (n : Int) : List PV := [.int k n]
def q0h (b : Bool) : List PV := [.bool b]
def qm (b : UInt8) : List PV := [.int .u8 b.toNat]
def slE {α : Type} (k : Nat) (e : α → List PV) (s : Sl α) : List PV := [.sl s.nil (szc k s.l) (List.map e s.l)]
def qo6 {α : Type} (e : α → List PV) (s : α × α) : List PV := e s.1 ++ e s.2
abbrev Dum : Prop := ∀ x : Bool,(x && true) = x
def qd {α : Type} (l : List α) (i : Int) : Option α := if 0 ≤ i then l[i.toNat]? else none
def sub2 {α : Type} (l : List α) (lo hi : Int) : Option (List α) := if (0 ≤ lo ∧ 0 ≤ hi) ∧ (lo.toNat ≤ hi.toNat ∧ hi.toNat ≤ l.length) then some ((l.take hi.toNat).drop lo.toNat) else none
def je {α : Type} (l : List α) (lo : Int) : Option (List α) := if 0 ≤ lo ∧ lo.toNat ≤ l.length then some (l.drop lo.toNat) else none
def yh {α : Type} (l : List α) (hi : Int) : Option (List α) := if 0 ≤ hi ∧ hi.toNat ≤ l.length then some (l.take hi.toNat) else none
def u8 (n : Int) : UInt8 := UInt8.ofNat n.toNat
def room (n b : Nat) : Bool := ql n b
section
variable {α : Type} {l : List α} {i lo hi : Int} {x : α} {r : List α}
theorem qfd (h : qd l i = some x) (k : IntKind) : xg (.pv (.int k i)) = some i.toNat := by
 unfold qd at h; split at h
 ·rename_i h0; simp [xg,h0]
 ·cases h
theorem qj6 (k : IntKind) {n : Int} (h : 0 ≤ n) : xg (.pv (.int k n)) = some n.toNat := by simp [xg,h]
theorem qbe (h : qd l i = some x) : l[i.toNat]? = some x := by
 unfold qd at h; split at h
 ·exact h
 ·cases h
theorem qjc {β : Type} (e : α → β) (h : qd l i = some x) : (List.map e l)[i.toNat]? = some (e x) := by simp [qbe h]
theorem qt8 (h : qd l i = some x) : l.isEmpty = false := by
 have := qbe h; cases l <;> simp_all
theorem qls (h : qd l i = some x) (k : Nat) : szc k l = k := by
 have := qbe h; cases l <;> simp_all [szc]
theorem zr0 (h : qd l i = some x) (k : Nat) : (szc k l = k) = True := by simp [qls h]
theorem qms (h : qd l i = some x) : (i.toNat < l.length) = True := by
 have := qbe h; simp only [eq_iff_iff,iff_true]; exact (List.getElem?_eq_some_iff.1 this).1
theorem qn2 (h : sub2 l lo hi = some r) (k : IntKind) : xg (.pv (.int k lo)) = some lo.toNat := by
 unfold sub2 at h; split at h
 ·rename_i h0; simp [xg,h0.1.1]
 ·cases h
theorem qqi (h : sub2 l lo hi = some r) (k : IntKind) : xg (.pv (.int k hi)) = some hi.toNat := by
 unfold sub2 at h; split at h
 ·rename_i h0; simp [xg,h0.1.2]
 ·cases h
theorem qmf (h : sub2 l lo hi = some r) : (lo.toNat ≤ hi.toNat) = True := by
 unfold sub2 at h; split at h
 ·rename_i h0; simp [h0.2.1]
 ·cases h
theorem qm9 (h : sub2 l lo hi = some r) : (hi.toNat ≤ l.length) = True := by
 unfold sub2 at h; split at h
 ·rename_i h0; simp [h0.2.2]
 ·cases h
theorem qbh (h : sub2 l lo hi = some r) : (l.take hi.toNat).drop lo.toNat = r := by
 unfold sub2 at h; split at h <;> simp_all
theorem qlw (h : je l lo = some r) (k : IntKind) : xg (.pv (.int k lo)) = some lo.toNat := by
 unfold je at h; split at h
 ·rename_i h0; simp [xg,h0.1]
 ·cases h
theorem qla (h : je l lo = some r) : (lo.toNat ≤ l.length) = True := by
 unfold je at h; split at h
 ·rename_i h0; simp [h0.2]
 ·cases h
theorem qin (h : je l lo = some r) : l.drop lo.toNat = r := by
 unfold je at h; split at h <;> simp_all
theorem zs3 (h : yh l hi = some r) (k : IntKind) : xg (.pv (.int k hi)) = some hi.toNat := by
 unfold yh at h; split at h
 ·rename_i h0; simp [xg,h0.1]
 ·cases h
theorem zcx (h : yh l hi = some r) : (hi.toNat ≤ l.length) = True := by
 unfold yh at h; split at h
 ·rename_i h0; simp [h0.2]
 ·cases h
theorem qlh (h : yh l hi = some r) : l.take hi.toNat = r := by
 unfold yh at h; split at h <;> simp_all
theorem z5k {β : Type} (e : α → β) (h : sub2 l lo hi = some r) : ((List.map e l).take hi.toNat).drop lo.toNat = List.map e r := by rw [← List.map_take,← List.map_drop,qbh h]
theorem zuw {β : Type} (e : α → β) (h : je l lo = some r) : (List.map e l).drop lo.toNat = List.map e r := by rw [← List.map_drop,qin h]
theorem qv4 {β : Type} (e : α → β) (h : yh l hi = some r) : (List.map e l).take hi.toNat = List.map e r := by rw [← List.map_take,qlh h]
theorem zii (h : sub2 l lo hi = some r) (k : Nat) : szc (szc k l) r = szc k r := by
 have := qbh h
 cases r with
 | nil => rfl
 | cons => cases l <;> simp_all [szc]
theorem z9h (h : je l lo = some r) (k : Nat) : szc (szc k l) r = szc k r := by
 have := qin h
 cases r with
 | nil => rfl
 | cons => cases l <;> simp_all [szc]
theorem zit (h : yh l hi = some r) (k : Nat) : szc (szc k l) r = szc k r := by
 have := qlh h
 cases r with
 | nil => rfl
 | cons => cases l <;> simp_all [szc]
theorem qq5 {β : Type} (k : Nat) (e : α → β) (l : List α) : szc k (List.map e l) = szc k l := by cases l <;> rfl
theorem zrt (k : Nat) (l : List α) : szc (szc k l) l = szc k l := by cases l <;> rfl
theorem ze (k : Nat) : szc k ([] : List α) = 0 := rfl
theorem qq0 (k : Nat) (x : α) (l : List α) : szc k (x :: l) = k := rfl
theorem qnd (k : Nat) (l : List α) (x : α) (r : List α) : szc k (l ++ x :: r) = k := by cases l <;> rfl
theorem qkj (k : Nat) (l : List α) (i : Nat) (x : α) : szc k (l.set i x) = szc k l := by cases l <;> cases i <;> rfl
theorem qmm {β : Type} (e : α → β) (l : List α) : (List.map e l).isEmpty = l.isEmpty := by cases l <;> rfl
theorem qn0 (l : List α) (x : α) (r : List α) : (l ++ x :: r).isEmpty = false := by cases l <;> rfl
theorem qjt (l : List α) (i : Nat) (x : α) : (l.set i x).isEmpty = l.isEmpty := by cases l <;> cases i <;> rfl
theorem qko (x : α) (l : List α) : (x :: l).isEmpty = false := rfl
theorem qq3 : ([] : List α).isEmpty = true := rfl
theorem jh {β : Type} (k : Nat) (e : α → β) (l : List α) : (szc k l = k ∨ List.map e l = []) = True := by cases l <;> simp [szc]
theorem take_len {β : Type} (e : α → β) (l : List α) : (List.map e l).take l.length = List.map e l := by rw [← List.map_take,List.take_length]
theorem q6o {β : Type} (e : α → β) (l r : List α) : List.map e l ++ List.map e r = List.map e (l ++ r) := by simp
theorem map_set {β : Type} (e : α → β) (l : List α) (i : Nat) (x : α) : (List.map e l).set i (e x) = List.map e (l.set i x) := by simp [List.map_set]
theorem qze (s : Bytes) : List.map (fun b => [PV.int .u8 (b.toNat : Int)]) s = List.map qm s := rfl
theorem bytesOf_map : ∀ s : Bytes,bytesOf (List.map qm s) = some s
 | [] => rfl
 | b :: s => by simp [qm,bytesOf,bytesOf_map s]
theorem zf (b : UInt8) : u8 (b.toNat : Int) = b := by simp [u8]
theorem zb (n : Int) : ((u8 (IntKind.u8.wrap n)).toNat : Int) = IntKind.u8.wrap n := by
 have h : 0 ≤ IntKind.u8.wrap n ∧ IntKind.u8.wrap n < 256 := by
  simp only [IntKind.wrap,IntKind.bits,IntKind.signed]
  constructor
  ·simp; omega
  ·simp; omega
 simp only [u8,UInt8.toNat_ofNat']
 omega
theorem z8h : List.range 1 = [0] := rfl
theorem zat : List.range 2 = [0,1] := rfl
theorem zej : List.range 3 = [0,1,2] := rfl
theorem zjw : List.range 4 = [0,1,2,3] := rfl
theorem zta : List.range 5 = [0,1,2,3,4] := rfl
theorem zoe : List.range 6 = [0,1,2,3,4,5] := rfl
def ny (te : TI) (β L n : Nat) (src : List (List PV)) (nx : Nat) : Option Blk → Option Eff
 | some (.row true _ es) => if L = es.length ∧ n = 0 then yg te (.row β L 0 n) src β nx nx else none
 | some (.row false sz es) =>
  if L = es.length ∧ sz = te.size ∧ ql (n + src.length) te.bytes = true then
   if n = es.length then some (.row β (es ++ src).length 0 (es ++ src).length,[(β,.row false te.size (es ++ src))],nx)
   else some (.row β (es.take n ++ src ++ es.drop (n + src.length)).length 0 (n + src.length),[(β,.row false te.size (es.take n ++ src ++ es.drop (n + src.length)))],nx)
  else none
 | _ => none
theorem qs3 (te : TI) (β L n nx sz : Nat) (es src : List (List PV)) : ny te β L n src nx (some (.row false sz es)) =
  if L = es.length ∧ sz = te.size ∧ ql (n + src.length) te.bytes = true then
   if n = es.length then some (.row β (es ++ src).length 0 (es ++ src).length,[(β,.row false te.size (es ++ src))],nx)
   else some (.row β (es.take n ++ src ++ es.drop (n + src.length)).length 0 (n + src.length),[(β,.row false te.size (es.take n ++ src ++ es.drop (n + src.length)))],nx)
  else none := rfl
theorem z7t (te : TI) (β L n nx sz : Nat) (es src : List (List PV)) : ny te β L n src nx (some (.row true sz es)) = if L = es.length ∧ n = 0 then yg te (.row β L 0 n) src β nx nx else none := rfl
def qef (te : TI) (β L n : Nat) (H : Heap) (nx : Nat) : Option (Nat × List (List PV)) → Option Eff
 | none => none
 | some (xsz,src) => if (xsz = te.size ∨ src = []) ∧ 0 < te.size then ny te β L n src nx (H.get β) else none
theorem zrl (te : TI) (β L n : Nat) (x : AV) (H : Heap) (nx : Nat) : ma te (.row β L 0 n) x H nx = qef te β L n H nx (ui x H) := by
 unfold ma qef
 cases ui x H with
 | none => rfl
 | some p =>
  obtain ⟨xsz,src⟩ := p
  simp only
  split
  ·unfold ny
   cases H.get β with
   | none => rfl
   | some b =>
    cases b with
    | row isnil sz es => cases isnil <;> simp
    | _ => rfl
  ·rfl
theorem zkj (te : TI) (sz : Nat) (es : List (List PV)) (x : AV) (H : Heap) (nx : Nat) : ma te (.pv (.sl true sz es)) x H nx =
  match ui x H with
  | none => none
  | some (xsz,src) => if (xsz = te.size ∨ src = []) ∧ 0 < te.size then yg te (.pv (.sl true sz es)) src nx nx (nx + 1) else none := rfl
theorem qu1 (te : TI) (x : AV) (H : Heap) (nx : Nat) : ma te .zsl x H nx =
  match ui x H with
  | none => none
  | some (xsz,src) => if (xsz = te.size ∨ src = []) ∧ 0 < te.size then yg te .zsl src nx nx (nx + 1) else none := rfl
theorem qiq (te : TI) (β k nx : Nat) (e : α → List PV) (l : List α) (c : List PV) (src : List (List PV)) (hk : k = te.size) (hr : ql (l.length + (c :: src).length) te.bytes = true) :
  ny te β l.length l.length (c :: src) nx (some (.row l.isEmpty (szc k l) (List.map e l))) =
   some (.row β (List.map e l ++ c :: src).length 0 (List.map e l ++ c :: src).length,[(β,.row false k (List.map e l ++ c :: src))],nx) := by
 subst hk
 cases l with
 | nil =>
  have hr' : ql (src.length + 1) te.bytes = true := by simpa using hr
  simp [ny,yg,hr']
 | cons a l =>
  have hr' : ql (l.length + 1 + (src.length + 1)) te.bytes = true := by simpa using hr
  simp [ny,szc,hr']
theorem zsh {γ : Type} (te : TI) (β k nx : Nat) (e : α → List PV) (e' : γ → List PV) (l : List α) (s : List γ) (hs : (l.isEmpty && s.isEmpty) = false) (hk : k = te.size) (hr : ql (l.length + s.length) te.bytes = true) :
  ny te β l.length l.length (List.map e' s) nx (some (.row l.isEmpty (szc k l) (List.map e l))) =
   some (.row β (List.map e l ++ List.map e' s).length 0 (List.map e l ++ List.map e' s).length,[(β,.row false k (List.map e l ++ List.map e' s))],nx) := by
 subst hk
 cases l with
 | nil =>
  cases s with
  | nil => simp at hs
  | cons c s =>
   have hr' : ql (s.length + 1) te.bytes = true := by simpa using hr
   simp [ny,yg,hr']
 | cons a l =>
  have hr' : ql (l.length + 1 + s.length) te.bytes = true := by simpa using hr
  simp [ny,szc,hr']
theorem zpw {γ : Type} (te : TI) (β k nx : Nat) (e : α → List PV) (e' : γ → List PV) (l : List α) (s : List γ) (hs : (l.isEmpty && s.isEmpty) = true) :
  ny te β l.length l.length (List.map e' s) nx (some (.row l.isEmpty (szc k l) (List.map e l))) = some (.row β l.length 0 l.length,[],nx) := by
 cases l with
 | nil =>
  cases s with
  | nil => simp [ny,yg]
  | cons c s => simp at hs
 | cons a l => simp at hs
theorem qpw {γ : Type} {l s : List γ} (h : (l.isEmpty && s.isEmpty) = false) : (l ++ s).isEmpty = false := by cases l <;> cases s <;> simp_all
theorem q8e {γ : Type} {l s : List γ} (h : (l.isEmpty && s.isEmpty) = false) (k : Nat) : szc k (l ++ s) = k := by cases l <;> cases s <;> simp_all [szc]
end
structure qz where
 es : List (Int × Int × Nat)
 clock : Nat
 deriving Inhabited
def jo (e : Int × Int × Nat) : PV × PV × Nat := (.int .i64 e.1,.int .i64 e.2.1,e.2.2)
def zq (k : Int) : List (Int × Int × Nat) → Nat → Option (Nat × Int × Nat)
 | [],_ => none
 | (x,v,b) :: r,i => if k == x then some (i,v,b) else zq k r (i + 1)
def yu (m : qz) (k : Int) : Bool := (zq k m.es 0).isSome
def zm (m : qz) (k : Int) : Int := match zq k m.es 0 with | some (_,v,_) => v | none => 0
def j6 (m : qz) (k v : Int) : qz := match zq k m.es 0 with | some (i,_,b) => ⟨m.es.set i (k,v,b),m.clock⟩ | none => ⟨m.es ++ [(k,v,m.clock)],m.clock + 1⟩
def jy (m : qz) (k : Int) : qz := match zq k m.es 0 with | some (i,_,_) => ⟨m.es.eraseIdx i,m.clock⟩ | none => m
theorem qdj (k : Int) : ∀ (l : List (Int × Int × Nat)) (i : Nat),findKey (.int .i64 k) (List.map jo l) i = some ((zq k l i).map fun x => (x.1,.int .i64 x.2.1,x.2.2))
 | [],i => rfl
 | (x,v,b) :: r,i => by
  simp only [List.map_cons,jo,findKey,qb3,zq,if_true]
  cases h : (k == x) with
  | true => simp
  | false => simp only [qdj k r (i + 1)]; simp
theorem qg5 {α β : Type} (e : α → β) : ∀ (l : List α) (i : Nat),(List.map e l).eraseIdx i = List.map e (l.eraseIdx i)
 | [],i => by simp
 | x :: l,0 => rfl
 | x :: l,i + 1 => by simp [qg5 e l i]
def q6y (te : TI) (k : PV) (ok : Bool) : Option Blk → Option AV
 | some (.map es _) => match findKey k es 0 with
  | some (some (_,v,_)) => some (if ok then .tup [.pv v,.pv (.bool true)] else .pv v)
  | some none => some (if ok then .tup [.pv (mr te),.pv (.bool false)] else .pv (mr te))
  | none => none
 | _ => none
def qf5 (β : Nat) (k v : PV) : Option Blk → Option (List (Nat × Blk))
 | some (.map es clock) => match findKey k es 0 with
  | some (some (i,_,born)) => some [(β,.map (es.set i (k,v,born)) clock)]
  | some none => some [(β,.map (es ++ [(k,v,clock)]) (clock + 1))]
  | none => none
 | _ => none
def zpy (te : TI) (β : Nat) (k : PV) : Option Blk → Option (AV × List (Nat × Blk))
 | some (.map es clock) => match findKey k es 0 with
  | some (some (i,v,born)) => some (.tup [.pv v,.pv (.int .i64 born)],[(β,.map (es.set i (k,v,born)) clock)])
  | some none => some (.tup [.pv (mr te),.pv (.int .i64 clock)],[(β,.map (es ++ [(k,mr te,clock)]) (clock + 1))])
  | none => none
 | _ => none
def qsi (β : Nat) (born : Int) (v : PV) : Option Blk → Option (List (Nat × Blk))
 | some (.map es clock) => match qcs born es 0 with
  | some (i,k,b) => some [(β,.map (es.set i (k,v,b)) clock)]
  | none => none
 | _ => none
def qes (β : Nat) (k : PV) : Option Blk → Option (List (Nat × Blk))
 | some (.map es clock) => match findKey k es 0 with
  | some (some (i,_,_)) => some [(β,.map (es.eraseIdx i) clock)]
  | some none => some [(β,.map es clock)]
  | none => none
 | _ => none
theorem zi5 (tk te : TI) (β : Nat) (k : PV) (ok : Bool) (H : Heap) : q5h tk te (.map β) (.pv k) ok H = if xx tk.td k = true then q6y te k ok (H.get β) else none := by
 unfold q5h q6v
 simp only
 split
 ·cases H.get β with
  | none => rfl
  | some b => cases b <;> rfl
 ·rfl
theorem z3f (tk : TI) (β : Nat) (k v : PV) (H : Heap) : q1k tk (.map β) (.pv k) v H = if xx tk.td k = true then qf5 β k v (H.get β) else none := by
 unfold q1k
 simp only
 split
 ·cases H.get β with
  | none => rfl
  | some b => cases b <;> rfl
 ·rfl
theorem zb5 (tk te : TI) (β : Nat) (k : PV) (H : Heap) : q2b tk te (.map β) (.pv k) H = if xx tk.td k = true then zpy te β k (H.get β) else none := by
 unfold q2b
 simp only
 split
 ·cases H.get β with
  | none => rfl
  | some b => cases b <;> rfl
 ·rfl
theorem zih (β : Nat) (kd : IntKind) (born : Int) (v : PV) (H : Heap) : q1s (.map β) (.pv (.int kd born)) v H = qsi β born v (H.get β) := by
 unfold q1s
 simp only
 cases H.get β with
 | none => rfl
 | some b => cases b <;> rfl
theorem qvz (tk : TI) (β : Nat) (k : PV) (H : Heap) : q35 tk (.map β) (.pv k) H = if xx tk.td k = true then qes β k (H.get β) else none := by
 unfold q35
 simp only
 split
 ·cases H.get β with
  | none => rfl
  | some b => cases b <;> rfl
 ·rfl
section
variable (b : Bool) (β : Nat) (m : qz) (k : Int)
theorem qv3 : q6y ⟨1,8,.int .i64,[.int .i64 0],b⟩ (.int .i64 k) false (some (.map (List.map jo m.es) m.clock)) = some (.pv (.int .i64 (zm m k))) := by
 simp only [q6y,qdj,zm]
 cases zq k m.es 0 <;> simp [mr,TI.isAgg]
theorem quf : q6y ⟨1,8,.int .i64,[.int .i64 0],b⟩ (.int .i64 k) true (some (.map (List.map jo m.es) m.clock)) = some (.tup [.pv (.int .i64 (zm m k)),.pv (.bool (yu m k))]) := by
 simp only [q6y,qdj,zm,yu]
 cases zq k m.es 0 <;> simp [mr,TI.isAgg]
theorem z8m (v : Int) : qf5 β (.int .i64 k) (.int .i64 v) (some (.map (List.map jo m.es) m.clock)) = some [(β,.map (List.map jo (j6 m k v).es) (j6 m k v).clock)] := by
 simp only [qf5,qdj,j6]
 cases zq k m.es 0 <;> simp [jo,List.map_set]
theorem zfj : qes β (.int .i64 k) (some (.map (List.map jo m.es) m.clock)) = some [(β,.map (List.map jo (jy m k).es) (jy m k).clock)] := by
 simp only [qes,qdj,jy]
 cases h : zq k m.es 0 <;> simp [qg5]
end
def q1o (m : qz) : Option (List Int) := if qem (m.es.map (·.1)) (m.es.map (·.2.2)) m.clock then some (xw (m.es.map (·.1))) else none
theorem qjw : ∀ l : List (Int × Int × Nat),q79 (List.map jo l) = some (l.map (·.1))
 | [] => rfl
 | x :: r => by simp [jo,q79,qjw r]
theorem qno : ∀ l : List (Int × Int × Nat),q1y (List.map jo l) = l.map (·.2.2)
 | [] => rfl
 | x :: r => by simp [jo,q1y,qno r]
theorem qul {m : qz} {r : List Int} (h : q1o m = some r) (fk : FuncId) :
  qa2 fk [.clo fk [] [.ptr 0 0]] [(0,.box [.map 1]),(1,.map (List.map jo m.es) m.clock)] = some (.row 2 r.length 0 r.length,[(0,.box [.map 1]),(1,.map (List.map jo m.es) m.clock),(2,.row r.isEmpty (szc 1 r) (List.map qc r))]) := by
 unfold q1o at h
 split at h
 ·rename_i hf
  cases h
  simp only [qa2,qjw,qno,hf,true_and,if_true]
  rfl
 ·cases h
theorem qjm (k : Int) : ∀ (l : List (Int × Int × Nat)) (e : Int × Int × Nat) (i : Nat),zq k (l ++ [e]) i = match zq k l i with | some x => some x | none => if k == e.1 then some (i + l.length,e.2.1,e.2.2) else none
 | [],e,i => by simp [zq]
 | (x,v,b) :: r,e,i => by
  simp only [List.cons_append,zq]
  split
  ·rfl
  ·rw [qjm k r e (i + 1)]
   simp only [List.length_cons]
   have : i + 1 + r.length = i + (r.length + 1) := by omega
   rw [this]
theorem qgk (k k' : Int) (v : Int) : ∀ (l : List (Int × Int × Nat)) (i j : Nat) (w : Int) (b : Nat),zq k l i = some (i + j,w,b) →
  zq k' (l.set j (k,v,b)) i = if k' == k then some (i + j,v,b) else zq k' l i
 | [],i,j,w,b,h => by simp [zq] at h
 | (x,u,c) :: r,i,j,w,b,h => by
  simp only [zq] at h
  split at h
  ·rename_i hk
   simp only [Option.some.injEq,Prod.mk.injEq] at h
   obtain ⟨h1,rfl,rfl⟩ := h
   have : j = 0 := by omega
   subst this
   simp only [beq_iff_eq] at hk
   subst hk
   simp only [List.set_cons_zero,zq,Nat.add_zero]
   by_cases e : k' = k <;> simp [e]
  ·rename_i hk
   have hge : ∀ (l : List (Int × Int × Nat)) (n m : Nat) (w : Int) (b : Nat),zq k l n = some (m,w,b) → n ≤ m := by
    intro l
    induction l with
    | nil => intro n m w b h; simp [zq] at h
    | cons y r ih =>
     intro n m w b h
     simp only [zq] at h
     split at h
     ·cases h; exact Nat.le_refl _
     ·have := ih (n + 1) m w b h; omega
   have := hge r (i + 1) (i + j) w b h
   obtain ⟨j',rfl⟩ : ∃ j',j = j' + 1 := ⟨j - 1,by omega⟩
   have h' : zq k r (i + 1) = some (i + 1 + j',w,b) := by rw [h]; congr 2; omega
   have ih := qgk k k' v r (i + 1) j' w b h'
   simp only [List.set_cons_succ,zq,ih]
   by_cases e1 : k' = x
   ·subst e1
    have : (k == k') = false := by simpa using hk
    have h2 : (k' == k) = false := by simp at this ⊢; exact fun h => this h.symm
    simp [h2]
   ·have : (k' == x) = false := by simpa using e1
    simp only [this,Bool.false_eq_true,if_false]
    have : i + 1 + j' = i + (j' + 1) := by omega
    rw [this]
theorem qkm (m : qz) (k v k' : Int) : zq k' (j6 m k v).es 0 = if k' == k then some (((zq k (j6 m k v).es 0).getD (0,0,0)).1,v,((zq k (j6 m k v).es 0).getD (0,0,0)).2.2) else zq k' m.es 0 := by
 unfold j6
 cases h : zq k m.es 0 with
 | none =>
  simp only [qjm,h]
  by_cases e : k' = k
  ·subst e; simp [h]
  ·have : (k' == k) = false := by simpa using e
   simp only [this,Bool.false_eq_true,if_false]
   cases zq k' m.es 0 <;> rfl
 | some x =>
  obtain ⟨i,w,b⟩ := x
  have h' : zq k m.es 0 = some (0 + i,w,b) := by simpa using h
  simp only [qgk k k' v m.es 0 i w b h',qgk k k v m.es 0 i w b h']
  by_cases e : k' = k <;> simp [e]
theorem qpu (m : qz) (k v k' : Int) : zm (j6 m k v) k' = if k' = k then v else zm m k' := by
 unfold zm
 rw [qkm]
 by_cases e : k' = k <;> simp [e]
theorem qgg (m : qz) (k v k' : Int) : yu (j6 m k v) k' = if k' = k then true else yu m k' := by
 unfold yu
 rw [qkm]
 by_cases e : k' = k <;> simp [e]
theorem z6m (k : Int) : yu ⟨[],0⟩ k = false := rfl
theorem zi {α : Type} {l : List α} {n : Nat} (h : n < l.length) : qd l (n : Int) = some l[n] := by simp [qd,h]
theorem qrz {α β : Type} (f : α → β) (a : α) (l : List α) : List.map f (a :: l) = f a :: List.map f l := rfl
theorem zah {α β : Type} (f : α → β) : List.map f ([] : List α) = [] := rfl
theorem zoz {α : Type} : ([] : List α).length = 0 := rfl
theorem zay {α : Type} (a : α) (l : List α) : (a :: l).length = l.length + 1 := rfl
theorem zar {α : Type} (l : List α) (x : α) : (l.length < (l ++ [x]).length) = True := by simp
theorem qxf {α β : Type} (f : α → β) (l : List α) (x : β) : (l.length < (List.map f l ++ [x]).length) = True := by simp
theorem qm3 {α : Type} (l : List α) (i : Nat) (x : α) : (l.set i x).length = l.length := List.length_set
def z0x := PLift.up (And.intro @qrz (And.intro @zah (And.intro @zoz (And.intro @zay (And.intro @ze (And.intro @qq0 (And.intro @qnd (And.intro @qkj (And.intro @qq3 (And.intro @qko (And.intro @qn0 (And.intro @qjt (And.intro @qm3 (And.intro @zf @zb))))))))))))))
theorem qg2 {α : Type} {P : Program} {t : TypeId} {e : α → List PV} {ok : α → Prop} {n : Nat} (h : Reads P t e ok n) : Reads P t e (fun _ => True) n := h.map (fun x => x) (fun _ _ => ⟨trivial,rfl⟩)
def q08 {α : Type} (_ : α) : Prop := True
theorem ztb {α : Type} {P : Program} {t el : TypeId} {sz : Nat} {e : α → List PV} {ok : α → Prop} {n : Nat} (ht : P.underlying t = some (.slice el)) (hc : P.cellsOf t = 1) (hsz : P.cellsOf el = sz) (hpos : 0 < sz)
  (h : Reads P el e ok n) : Reads P t (slE sz e) (fun _ => True) n :=
 ((Reads.slice ht hc hsz hpos h).map (fun x => (⟨x.1 && x.2.isEmpty,x.2⟩ : Sl α)) (fun x _ => ⟨trivial,by simp [slE,slP,qmm,qq5]⟩)).mono (Nat.le_succ n)
def inI (n : Int) : Prop := -9223372036854775808 ≤ n ∧ n ≤ 9223372036854775807
def yo (s : Bytes) : Prop := s.length ≤ maxLen
def yx {α : Type} (ok : α → Prop) (s : Sl α) : Prop := (s.l.length ≤ maxLen ∧ (s.nil = true → s.l = [])) ∧ ∀ a ∈ s.l,ok a
theorem drop_cons {α : Type} {xs : List α} {i : Nat} {x : α} {r : List α} (h : xs.drop i = x :: r) : xs[i]? = some x ∧ xs.drop (i + 1) = r ∧ i < xs.length := by
 have h1 : xs[i]? = some x := by
  have := congrArg (fun l => l[0]?) h
  simpa using this
 have h2 : xs.drop (i + 1) = r := by
  have := congrArg (fun l => l.drop 1) h
  simpa [List.drop_drop] using this
 exact ⟨h1,h2,(List.getElem?_eq_some_iff.1 h1).1⟩
theorem pq {α : Type} {xs : List α} {i : Nat} (h : xs.drop i = []) : xs.length ≤ i := by simpa using h
theorem q9 {n : Int} (h1 : -9223372036854775808 ≤ n) (h2 : n ≤ 9223372036854775807) : IntKind.i64.wrap n = n := IntWalk.i64_in n ⟨h1,h2⟩
theorem jl {n : Nat} (h : n < 9223372036854775807) : IntKind.i64.wrap ((n : Int) + 1) = ((n + 1 : Nat) : Int) := q9 (by omega) (by omega)
theorem znq (b : Bool) : AV.cells (.pv (.bool b)) = [(.pv (.bool b))] := rfl
theorem qxx (k : IntKind) (n : Int) : AV.cells (.pv (.int k n)) = [(.pv (.int k n))] := rfl
theorem qzh (l : List UInt8) : AV.cells (.pv (.str l)) = [(.pv (.str l))] := rfl
theorem z0c (a : Bool) (b : Nat) (c : List (List PV)) : AV.cells (.pv (.sl a b c)) = [(.pv (.sl a b c))] := rfl
theorem z1n : AV.cells (.pv (.nilptr)) = [(.pv (.nilptr))] := rfl
theorem zhr : AV.cells (.pv (.nilfn)) = [(.pv (.nilfn))] := rfl
theorem zhh : AV.cells (.pv (.nilmap)) = [(.pv (.nilmap))] := rfl
theorem zs4 : AV.cells (.pv (.nilif)) = [(.pv (.nilif))] := rfl
theorem qx7 (f : FuncId) : AV.cells (.pv (.fn f)) = [(.pv (.fn f))] := rfl
theorem zhe (c : List PV) : AV.cells (.pv (.rp c)) = [(.pv (.rp c))] := rfl
theorem zow (c : List PV) : AV.cells (.pv (.agg c)) = c.map .pv := rfl
theorem zf1 (x y : Nat) : AV.cells (.ptr x y) = [(.ptr x y)] := rfl
theorem qz8 (x y z u : Nat) : AV.cells (.eptr x y z u) = [(.eptr x y z u)] := rfl
theorem z3o (c : List PV) (x : Nat) : AV.cells (.rptr c x) = [(.rptr c x)] := rfl
theorem z9j (x y z u : Nat) : AV.cells (.row x y z u) = [(.row x y z u)] := rfl
theorem ztt : AV.cells (.zsl) = [(.zsl)] := rfl
theorem zcd (x : Nat) : AV.cells (.map x) = [(.map x)] := rfl
theorem z08 (f : FuncId) (a b : List AV) : AV.cells (.clo f a b) = [(.clo f a b)] := rfl
theorem ziv (l : List AV) : AV.cells (.tup l) = [(.tup l)] := rfl
theorem qvt (c : List AV) : AV.cells (.agg c) = c := rfl
abbrev v_i (n : Int) : AV := .pv (.int .i64 n)
abbrev v_b (b : Bool) : AV := .pv (.bool b)
abbrev v_s (s : Bytes) : AV := .pv (.str s)
abbrev v_g (l : List PV) : AV := .pv (.agg l)
abbrev v_l {α : Type} (k : Nat) (e : α → List PV) (s : Sl α) : AV := .pv (.sl s.nil (szc k s.l) (List.map e s.l))
abbrev v_r {α : Type} (β : Nat) (l : List α) : AV := .row β l.length 0 l.length
abbrev b_x (l : List PV) : Blk := .box (List.map .pv l)
abbrev b_r {α : Type} (k : Nat) (e : α → List PV) (l : List α) : Blk := .row l.isEmpty (szc k l) (List.map e l)
abbrev b_m (m : qz) : Blk := .map (List.map jo m.es) m.clock
theorem qu7 (n : Int) : v_i n = .pv (.int .i64 n) := rfl
theorem zg4 (b : Bool) : v_b b = .pv (.bool b) := rfl
theorem zmj (s : Bytes) : v_s s = .pv (.str s) := rfl
theorem z6j (l : List PV) : v_g l = .pv (.agg l) := rfl
theorem z7n {α : Type} (k : Nat) (e : α → List PV) (s : Sl α) : v_l k e s = .pv (.sl s.nil (szc k s.l) (List.map e s.l)) := rfl
theorem zi4 {α : Type} (β : Nat) (l : List α) : v_r β l = .row β l.length 0 l.length := rfl
theorem zcz (l : List PV) : b_x l = .box (List.map .pv l) := rfl
theorem zfi {α : Type} (k : Nat) (e : α → List PV) (l : List α) : b_r k e l = .row l.isEmpty (szc k l) (List.map e l) := rfl
theorem zlw (m : qz) : b_m m = .map (List.map jo m.es) m.clock := rfl
theorem zjm (b : UInt8) : qm b = [.int .u8 b.toNat] := rfl
theorem zo3 (n : Int) : qc n = [.int .i64 n] := rfl
theorem z8f (s : Bytes) : qh s = [.str s] := rfl
theorem zbe (b : Bool) : q0h b = [.bool b] := rfl
theorem zjy (k : IntKind) (n : Int) : kE k n = [.int k n] := rfl
theorem zjx {α : Type} (k : Nat) (e : α → List PV) (s : Sl α) : slE k e s = [.sl s.nil (szc k s.l) (List.map e s.l)] := rfl
theorem zi7 {α : Type} (e : α → List PV) (s : α × α) : qo6 e s = e s.1 ++ e s.2 := rfl
def zrc := PLift.up (And.intro @qu7 (And.intro @zg4 (And.intro @zmj (And.intro @z6j (And.intro @z7n (And.intro @zi4 (And.intro @zcz (And.intro @zfi (And.intro @zlw (And.intro @zjm (And.intro @zo3 (And.intro @z8f (And.intro @zbe (And.intro @zjy (And.intro @zjx @zi7)))))))))))))))
section
variable {α β : Type} {r : β} {P : Prop}
theorem bs {o : Option α} {k : α → Option β} (f : ∀ x,o = some x → k x = some r → P) (h : o >>= k = some r) : P := by
 obtain ⟨x,h1,h2⟩ := Option.bind_eq_some_iff.1 h
 exact f x h1 h2
theorem it {b : Bool} {p q : Option β} (f : b = true → p = some r → P) (g : b = false → q = some r → P) (h : (if b = true then p else q) = some r) : P := by
 cases b
 ·exact g rfl h
 ·exact f rfl h
theorem gd {Q : Prop} [Decidable Q] {p : Option β} (f : Q → p = some r → P) (h : (if Q then p else none) = some r) : P := by
 split at h
 ·exact f ‹_› h
 ·cases h
variable {l : List α} {i lo hi : Int}
theorem bg {k : α → Option β} (e : α → List PV) (f : ∀ x,qd l i = some x → (∀ kd,xg (.pv (.int kd i)) = some i.toNat) → (List.map e l)[i.toNat]? = some (e x) → (∀ z,(szc z l = z) = True) → k x = some r → P) (h : qd l i >>= k = some r) : P :=
 bs (fun x hx => f x hx (qfd hx) (qjc e hx) (zr0 hx)) h
theorem bw {k : α → Option β} (e : α → List PV) (f : ∀ x,qd l i = some x → (∀ kd,xg (.pv (.int kd i)) = some i.toNat) → (List.map e l)[i.toNat]? = some (e x) → (i.toNat < l.length) = True → k x = some r → P) (h : qd l i >>= k = some r) : P :=
 bs (fun x hx => f x hx (qfd hx) (qjc e hx) (qms hx)) h
theorem bW {k : α → Option β} (e : α → List PV) (z : Nat) (f : ∀ x,qd l i = some x → (∀ kd,xg (.pv (.int kd i)) = some i.toNat) → (List.map e l)[i.toNat]? = some (e x) → (i.toNat < l.length) = True → l.isEmpty = false → szc z l = z → k x = some r → P) (h : qd l i >>= k = some r) : P :=
 bs (fun x hx => f x hx (qfd hx) (qjc e hx) (qms hx) (qt8 hx) (qls hx z)) h
theorem bc {k : α → Option β} (f : ∀ x,qd l i = some x → (∀ kd,xg (.pv (.int kd i)) = some i.toNat) → l[i.toNat]? = some x → k x = some r → P) (h : qd l i >>= k = some r) : P :=
 bs (fun x hx => f x hx (qfd hx) (qbe hx)) h
variable {k : List α → Option β}
theorem b2s (f : ∀ x,sub2 l lo hi = some x → (∀ kd,xg (.pv (.int kd lo)) = some lo.toNat) → (∀ kd,xg (.pv (.int kd hi)) = some hi.toNat) → (lo.toNat ≤ hi.toNat) = True → (hi.toNat ≤ l.length) = True → (l.take hi.toNat).drop lo.toNat = x → k x = some r → P) (h : sub2 l lo hi >>= k = some r) : P :=
 bs (fun x hx => f x hx (qn2 hx) (qqi hx) (qmf hx) (qm9 hx) (qbh hx)) h
theorem b2 (e : α → List PV) (f : ∀ x,sub2 l lo hi = some x → (∀ kd,xg (.pv (.int kd lo)) = some lo.toNat) → (∀ kd,xg (.pv (.int kd hi)) = some hi.toNat) → (lo.toNat ≤ hi.toNat) = True → (hi.toNat ≤ l.length) = True → ((List.map e l).take hi.toNat).drop lo.toNat = List.map e x → (∀ z,szc (szc z l) x = szc z x) → k x = some r → P) (h : sub2 l lo hi >>= k = some r) : P :=
 bs (fun x hx => f x hx (qn2 hx) (qqi hx) (qmf hx) (qm9 hx) (z5k e hx) (zii hx)) h
theorem bFs (f : ∀ x,je l lo = some x → (∀ kd,xg (.pv (.int kd lo)) = some lo.toNat) → (lo.toNat ≤ l.length) = True → l.drop lo.toNat = x → k x = some r → P) (h : je l lo >>= k = some r) : P :=
 bs (fun x hx => f x hx (qlw hx) (qla hx) (qin hx)) h
theorem bF (e : α → List PV) (f : ∀ x,je l lo = some x → (∀ kd,xg (.pv (.int kd lo)) = some lo.toNat) → (lo.toNat ≤ l.length) = True → (List.map e l).drop lo.toNat = List.map e x → (∀ z,szc (szc z l) x = szc z x) → k x = some r → P) (h : je l lo >>= k = some r) : P :=
 bs (fun x hx => f x hx (qlw hx) (qla hx) (zuw e hx) (z9h hx)) h
theorem bT (e : α → List PV) (f : ∀ x,yh l hi = some x → (∀ kd,xg (.pv (.int kd hi)) = some hi.toNat) → (hi.toNat ≤ l.length) = True → (List.map e l).take hi.toNat = List.map e x → (∀ z,szc (szc z l) x = szc z x) → k x = some r → P) (h : yh l hi >>= k = some r) : P :=
 bs (fun x hx => f x hx (zs3 hx) (zcx hx) (qv4 e hx) (zit hx)) h
variable {s : List α}
theorem rG (k : Nat) (e : α → List PV) (l : List α) (te : TI) (β nx : Nat) (c : List PV) (hk : k = te.size) (hr : ql (l.length + 1) te.bytes = true) :
  ny te β l.length l.length [c] nx (some (.row l.isEmpty (szc k l) (List.map e l))) = some (.row β (List.map e l ++ [c]).length 0 (List.map e l ++ [c]).length,[(β,.row false k (List.map e l ++ [c]))],nx) := qiq te β k nx e l c [] hk hr
theorem rA (e : α → List PV) (hs : (l.isEmpty && s.isEmpty) = true) (te : TI) (β k nx : Nat) : ny te β l.length l.length (List.map e s) nx (some (.row l.isEmpty (szc k l) (List.map e l))) = some (.row β l.length 0 l.length,[],nx) := zpw te β k nx e e l s hs
theorem rB (e : α → List PV) (hs : (l.isEmpty && s.isEmpty) = false) (te : TI) (β k nx : Nat) (hk : k = te.size) (hr : ql (l.length + s.length) te.bytes = true) :
  ny te β l.length l.length (List.map e s) nx (some (.row l.isEmpty (szc k l) (List.map e l))) = some (.row β (List.map e l ++ List.map e s).length 0 (List.map e l ++ List.map e s).length,[(β,.row false k (List.map e l ++ List.map e s))],nx) := zsh te β k nx e e l s hs hk hr
end
section
variable (m : qz) (k v : Int) (b : Bool) (β : Nat)
theorem mG : q6y ⟨1,8,.int .i64,[.int .i64 0],b⟩ (.int .i64 k) false (some (.map (List.map jo m.es) m.clock)) = some (.pv (.int .i64 (zm m k))) := qv3 b m k
theorem mG2 : q6y ⟨1,8,.int .i64,[.int .i64 0],b⟩ (.int .i64 k) true (some (.map (List.map jo m.es) m.clock)) = some (.tup [.pv (.int .i64 (zm m k)),.pv (.bool (yu m k))]) := quf b m k
theorem mP : qf5 β (.int .i64 k) (.int .i64 v) (some (.map (List.map jo m.es) m.clock)) = some [(β,.map (List.map jo (j6 m k v).es) (j6 m k v).clock)] := z8m β m k v
theorem mD : qes β (.int .i64 k) (some (.map (List.map jo m.es) m.clock)) = some [(β,.map (List.map jo (jy m k).es) (jy m k).clock)] := zfj β m k
end
theorem fF {G : GP} {f : FuncId} {S : Special} {nt : Nat} {ob : Option Code} {ra : Array ResultVar} (hfi : G.fn f = some ⟨nt,ra.toList,ob.get!⟩) {c : Code} {rs : List ResultVar} {H : Heap} {args : List AV} {r : Option (AV × Heap)}
  (hs : S.call f = none := by rfl) (hc : ob = some c := by rfl) (hr : ra = ⟨rs⟩ := by rfl) (hk : wu 0 H = true := by rfl)
  (h : qck G f H.length rs (cont G (omega G S) f [.code c] (.normal,⟨q09 0 args,H,H.length⟩)) = r := by
   simp (maxSteps := 2000000) (disch := first | assumption | rfl | exact qfz.mk (by kernel_rfl)) only [go_sem,↓reduceIte,Nat.reduceLeDiff,Nat.reduceEqDiff,Nat.reduceLT,Nat.reduceAdd,Nat.reduceSub,Nat.reduceMul,reduceCtorEq,Nat.reducePow, *]) :
  (omega G S).call f args H = r := qxm hs hfi hc hr hk h
theorem fL {G : GP} {f : FuncId} {S : Special} {fi : FI} (hfi : G.fn f = some fi) {id : Nat} {c : Code} {s : St} {r : Option (Ex × St)}
  (hc : zx fi.body id = some c := by rfl)
  (h : roundEnd G (omega G S) f id s.nx (cont G (omega G S) f [.code c] (.normal,s)) = r := by
   simp (maxSteps := 2000000) (disch := first | assumption | rfl | exact qfz.mk (by kernel_rfl)) only [go_sem,↓reduceIte,Nat.reduceLeDiff,Nat.reduceEqDiff,Nat.reduceLT,Nat.reduceAdd,Nat.reduceSub,Nat.reduceMul,reduceCtorEq,Nat.reducePow, *]) :
  (omega G S).loop f id s = r := z4n hfi hc h
def refsOf (H : Heap) : List Nat → List Nat
 | [] => []
 | β :: r => (yz H β).refs ++ refsOf H r
theorem qnk (H : Heap) : ∀ d : List Nat,(d.flatMap fun β => (yz H β).refs) = refsOf H d
 | [] => rfl
 | β :: r => by rw [List.flatMap_cons,qnk H r]; rfl
theorem zch (H : Heap) (d roots : List Nat) : q1f H d roots = match roots,d with
 | [],[] => some ([],[])
 | roots,d => let L := reach H 400 (roots ++ refsOf H d) d
  if q3m roots L && closedIn H L L then some (L,pick H (pos L) 0 L) else none := by
 cases roots <;> cases d <;> first | rfl | simp only [q1f,qnk]
theorem z19 (H : Heap) : jf .ptr (.pv .nilptr) H = some true := rfl
theorem z8b (H : Heap) (β o : Nat) : jf .ptr (.ptr β o) H = some false := rfl
theorem zd0 (H : Heap) (c : List PV) (o : Nat) : jf .ptr (.rptr c o) H = some false := rfl
theorem z2c (H : Heap) (β ver i o : Nat) : jf .ptr (.eptr β ver i o) H = some false := rfl
theorem qvg (H : Heap) (c : List PV) : jf .ptr (.pv (.rp c)) H = some false := rfl
theorem z3q (H : Heap) (e : TypeId) (b : Bool) (sz : Nat) (es : List (List PV)) : jf (.slice e) (.pv (.sl b sz es)) H = some b := rfl
theorem zqi (H : Heap) (e : TypeId) : jf (.slice e) .zsl H = some false := rfl
theorem z9q (H : Heap) (e : TypeId) (β ver off n : Nat) : jf (.slice e) (.row β ver off n) H = match H.get β with | some (.row b _ es) => if ver = es.length then some b else none | _ => none := rfl
theorem z5z (H : Heap) (k e : TypeId) : jf (.map k e) (.pv .nilmap) H = some true := rfl
theorem z16 (H : Heap) (k e : TypeId) (β : Nat) : jf (.map k e) (.map β) H = some false := rfl
theorem z5o (H : Heap) : jf .func (.pv .nilfn) H = some true := rfl
theorem zup (H : Heap) (f : FuncId) : jf .func (.pv (.fn f)) H = some false := rfl
theorem zet (H : Heap) (f : FuncId) (a b : List AV) : jf .func (.clo f a b) H = some false := rfl
theorem take_set {α β : Type} (e : α → β) (l : List α) (i : Nat) (x : α) : (List.map e (l.set i x)).take l.length = List.map e (l.set i x) := by
 have h : (l.set i x).length = l.length := List.length_set
 rw [← List.map_take,← h,List.take_length]
end Go.Gm
namespace Go.Gm
open Go
end Go.Gm
