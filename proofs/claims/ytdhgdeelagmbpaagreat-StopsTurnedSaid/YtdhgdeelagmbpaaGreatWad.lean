/-
  The machine, part d.
-/
import Derived.Test.YtdhgdeelagmbpaaGreatWac
set_option linter.unusedSimpArgs false
set_option linter.unusedVariables false
namespace Go.Gm
open Go
abbrev Bytes := List UInt8
structure Sl (α : Type) where
 nil : Bool
 l : List α
 deriving Inhabited,DecidableEq
def qh (s : Bytes) : List PV := [.str s]
def qg (n : Int) : List PV := [.int .i64 n]
def kE (k : IntKind) (n : Int) : List PV := [.int k n]
def qp5 (b : Bool) : List PV := [.bool b]
def qj (b : UInt8) : List PV := [.int .u8 b.toNat]
def slE {α : Type} (k : Nat) (e : α → List PV) (s : Sl α) : List PV := [.sl s.nil (szc k s.l) (List.map e s.l)]
def qn1 {α : Type} (e : α → List PV) (s : α × α) : List PV := e s.1 ++ e s.2
abbrev Dum : Prop := ∀ x : Bool,(x && true) = x
def qc {α : Type} (l : List α) (i : Int) : Option α := if 0 ≤ i then l[i.toNat]? else none
def sub2 {α : Type} (l : List α) (lo hi : Int) : Option (List α) := if (0 ≤ lo ∧ 0 ≤ hi) ∧ (lo.toNat ≤ hi.toNat ∧ hi.toNat ≤ l.length) then some ((l.take hi.toNat).drop lo.toNat) else none
def jr {α : Type} (l : List α) (lo : Int) : Option (List α) := if 0 ≤ lo ∧ lo.toNat ≤ l.length then some (l.drop lo.toNat) else none
def gq {α : Type} (l : List α) (hi : Int) : Option (List α) := if 0 ≤ hi ∧ hi.toNat ≤ l.length then some (l.take hi.toNat) else none
def u8 (n : Int) : UInt8 := UInt8.ofNat n.toNat
def room (n b : Nat) : Bool := ql n b
section
variable {α : Type} {l : List α} {i lo hi : Int} {x : α} {r : List α}
theorem qeg (h : qc l i = some x) (k : IntKind) : xc (.pv (.int k i)) = some i.toNat := by
 unfold qc at h; split at h
 ·rename_i h0; simp [xc,h0]
 ·cases h
theorem qhs (k : IntKind) {n : Int} (h : 0 ≤ n) : xc (.pv (.int k n)) = some n.toNat := by simp [xc,h]
theorem qbj (h : qc l i = some x) : l[i.toNat]? = some x := by
 unfold qc at h; split at h
 ·exact h
 ·cases h
theorem qfc {β : Type} (e : α → β) (h : qc l i = some x) : (List.map e l)[i.toNat]? = some (e x) := by simp [qbj h]
theorem z94 (h : qc l i = some x) : l.isEmpty = false := by
 have := qbj h; cases l <;> simp_all
theorem qo5 (h : qc l i = some x) (k : Nat) : szc k l = k := by
 have := qbj h; cases l <;> simp_all [szc]
theorem qs6 (h : qc l i = some x) (k : Nat) : (szc k l = k) = True := by simp [qo5 h]
theorem qg5 (h : qc l i = some x) : (i.toNat < l.length) = True := by
 have := qbj h; simp only [eq_iff_iff,iff_true]; exact (List.getElem?_eq_some_iff.1 this).1
theorem qlx (h : sub2 l lo hi = some r) (k : IntKind) : xc (.pv (.int k lo)) = some lo.toNat := by
 unfold sub2 at h; split at h
 ·rename_i h0; simp [xc,h0.1.1]
 ·cases h
theorem qjw (h : sub2 l lo hi = some r) (k : IntKind) : xc (.pv (.int k hi)) = some hi.toNat := by
 unfold sub2 at h; split at h
 ·rename_i h0; simp [xc,h0.1.2]
 ·cases h
theorem qji (h : sub2 l lo hi = some r) : (lo.toNat ≤ hi.toNat) = True := by
 unfold sub2 at h; split at h
 ·rename_i h0; simp [h0.2.1]
 ·cases h
theorem qna (h : sub2 l lo hi = some r) : (hi.toNat ≤ l.length) = True := by
 unfold sub2 at h; split at h
 ·rename_i h0; simp [h0.2.2]
 ·cases h
theorem qbv (h : sub2 l lo hi = some r) : (l.take hi.toNat).drop lo.toNat = r := by
 unfold sub2 at h; split at h <;> simp_all
theorem qit (h : jr l lo = some r) (k : IntKind) : xc (.pv (.int k lo)) = some lo.toNat := by
 unfold jr at h; split at h
 ·rename_i h0; simp [xc,h0.1]
 ·cases h
theorem qiz (h : jr l lo = some r) : (lo.toNat ≤ l.length) = True := by
 unfold jr at h; split at h
 ·rename_i h0; simp [h0.2]
 ·cases h
theorem qfm (h : jr l lo = some r) : l.drop lo.toNat = r := by
 unfold jr at h; split at h <;> simp_all
theorem zs1 (h : gq l hi = some r) (k : IntKind) : xc (.pv (.int k hi)) = some hi.toNat := by
 unfold gq at h; split at h
 ·rename_i h0; simp [xc,h0.1]
 ·cases h
theorem qq2 (h : gq l hi = some r) : (hi.toNat ≤ l.length) = True := by
 unfold gq at h; split at h
 ·rename_i h0; simp [h0.2]
 ·cases h
theorem qo1 (h : gq l hi = some r) : l.take hi.toNat = r := by
 unfold gq at h; split at h <;> simp_all
theorem zfu {β : Type} (e : α → β) (h : sub2 l lo hi = some r) : ((List.map e l).take hi.toNat).drop lo.toNat = List.map e r := by rw [← List.map_take,← List.map_drop,qbv h]
theorem zru {β : Type} (e : α → β) (h : jr l lo = some r) : (List.map e l).drop lo.toNat = List.map e r := by rw [← List.map_drop,qfm h]
theorem zqw {β : Type} (e : α → β) (h : gq l hi = some r) : (List.map e l).take hi.toNat = List.map e r := by rw [← List.map_take,qo1 h]
theorem zks (h : sub2 l lo hi = some r) (k : Nat) : szc (szc k l) r = szc k r := by
 have := qbv h
 cases r with
 | nil => rfl
 | cons => cases l <;> simp_all [szc]
theorem qpm (h : jr l lo = some r) (k : Nat) : szc (szc k l) r = szc k r := by
 have := qfm h
 cases r with
 | nil => rfl
 | cons => cases l <;> simp_all [szc]
theorem z5j (h : gq l hi = some r) (k : Nat) : szc (szc k l) r = szc k r := by
 have := qo1 h
 cases r with
 | nil => rfl
 | cons => cases l <;> simp_all [szc]
theorem zrt {β : Type} (k : Nat) (e : α → β) (l : List α) : szc k (List.map e l) = szc k l := by cases l <;> rfl
theorem zqd (k : Nat) (l : List α) : szc (szc k l) l = szc k l := by cases l <;> rfl
theorem ze (k : Nat) : szc k ([] : List α) = 0 := rfl
theorem qmi (k : Nat) (x : α) (l : List α) : szc k (x :: l) = k := rfl
theorem qkj (k : Nat) (l : List α) (x : α) (r : List α) : szc k (l ++ x :: r) = k := by cases l <;> rfl
theorem qkd (k : Nat) (l : List α) (i : Nat) (x : α) : szc k (l.set i x) = szc k l := by cases l <;> cases i <;> rfl
theorem qza {β : Type} (e : α → β) (l : List α) : (List.map e l).isEmpty = l.isEmpty := by cases l <;> rfl
theorem qle (l : List α) (x : α) (r : List α) : (l ++ x :: r).isEmpty = false := by cases l <;> rfl
theorem qjf (l : List α) (i : Nat) (x : α) : (l.set i x).isEmpty = l.isEmpty := by cases l <;> cases i <;> rfl
theorem qjn (x : α) (l : List α) : (x :: l).isEmpty = false := rfl
theorem qkg : ([] : List α).isEmpty = true := rfl
theorem jd {β : Type} (k : Nat) (e : α → β) (l : List α) : (szc k l = k ∨ List.map e l = []) = True := by cases l <;> simp [szc]
theorem take_len {β : Type} (e : α → β) (l : List α) : (List.map e l).take l.length = List.map e l := by rw [← List.map_take,List.take_length]
theorem q7k {β : Type} (e : α → β) (l r : List α) : List.map e l ++ List.map e r = List.map e (l ++ r) := by simp
theorem map_set {β : Type} (e : α → β) (l : List α) (i : Nat) (x : α) : (List.map e l).set i (e x) = List.map e (l.set i x) := by simp [List.map_set]
theorem z9v (s : Bytes) : List.map (fun b => [PV.int .u8 (b.toNat : Int)]) s = List.map qj s := rfl
theorem bytesOf_map : ∀ s : Bytes,bytesOf (List.map qj s) = some s
 | [] => rfl
 | b :: s => by simp [qj,bytesOf,bytesOf_map s]
theorem zb (b : UInt8) : u8 (b.toNat : Int) = b := by simp [u8]
theorem za (n : Int) : ((u8 (IntKind.u8.wrap n)).toNat : Int) = IntKind.u8.wrap n := by
 have h : 0 ≤ IntKind.u8.wrap n ∧ IntKind.u8.wrap n < 256 := by
  simp only [IntKind.wrap,IntKind.bits,IntKind.signed]
  constructor
  ·simp; omega
  ·simp; omega
 simp only [u8,UInt8.toNat_ofNat']
 omega
theorem zd8 : List.range 1 = [0] := rfl
theorem zgq : List.range 2 = [0,1] := rfl
theorem z15 : List.range 3 = [0,1,2] := rfl
theorem qs2 : List.range 4 = [0,1,2,3] := rfl
theorem zqz : List.range 5 = [0,1,2,3,4] := rfl
theorem qt9 : List.range 6 = [0,1,2,3,4,5] := rfl
def gp (te : TI) (β L n : Nat) (src : List (List PV)) (nx : Nat) : Option Blk → Option Eff
 | some (.row true _ es) => if L = es.length ∧ n = 0 then vw te (.row β L 0 n) src β nx nx else none
 | some (.row false sz es) =>
  if L = es.length ∧ sz = te.size ∧ ql (n + src.length) te.bytes = true then
   if n = es.length then some (.row β (es ++ src).length 0 (es ++ src).length,[(β,.row false te.size (es ++ src))],nx)
   else some (.row β (es.take n ++ src ++ es.drop (n + src.length)).length 0 (n + src.length),[(β,.row false te.size (es.take n ++ src ++ es.drop (n + src.length)))],nx)
  else none
 | _ => none
theorem zhi (te : TI) (β L n nx sz : Nat) (es src : List (List PV)) : gp te β L n src nx (some (.row false sz es)) =
  if L = es.length ∧ sz = te.size ∧ ql (n + src.length) te.bytes = true then
   if n = es.length then some (.row β (es ++ src).length 0 (es ++ src).length,[(β,.row false te.size (es ++ src))],nx)
   else some (.row β (es.take n ++ src ++ es.drop (n + src.length)).length 0 (n + src.length),[(β,.row false te.size (es.take n ++ src ++ es.drop (n + src.length)))],nx)
  else none := rfl
theorem z9p (te : TI) (β L n nx sz : Nat) (es src : List (List PV)) : gp te β L n src nx (some (.row true sz es)) = if L = es.length ∧ n = 0 then vw te (.row β L 0 n) src β nx nx else none := rfl
def qdo (te : TI) (β L n : Nat) (H : Heap) (nx : Nat) : Option (Nat × List (List PV)) → Option Eff
 | none => none
 | some (xsz,src) => if (xsz = te.size ∨ src = []) ∧ 0 < te.size then gp te β L n src nx (H.get β) else none
theorem qth (te : TI) (β L n : Nat) (x : AV) (H : Heap) (nx : Nat) : mg te (.row β L 0 n) x H nx = qdo te β L n H nx (ym x H) := by
 unfold mg qdo
 cases ym x H with
 | none => rfl
 | some p =>
  obtain ⟨xsz,src⟩ := p
  simp only
  split
  ·unfold gp
   cases H.get β with
   | none => rfl
   | some b =>
    cases b with
    | row isnil sz es => cases isnil <;> simp
    | _ => rfl
  ·rfl
theorem zkw (te : TI) (sz : Nat) (es : List (List PV)) (x : AV) (H : Heap) (nx : Nat) : mg te (.pv (.sl true sz es)) x H nx =
  match ym x H with
  | none => none
  | some (xsz,src) => if (xsz = te.size ∨ src = []) ∧ 0 < te.size then vw te (.pv (.sl true sz es)) src nx nx (nx + 1) else none := rfl
theorem z09 (te : TI) (x : AV) (H : Heap) (nx : Nat) : mg te .zsl x H nx =
  match ym x H with
  | none => none
  | some (xsz,src) => if (xsz = te.size ∨ src = []) ∧ 0 < te.size then vw te .zsl src nx nx (nx + 1) else none := rfl
theorem qgv (te : TI) (β k nx : Nat) (e : α → List PV) (l : List α) (c : List PV) (src : List (List PV)) (hk : k = te.size) (hr : ql (l.length + (c :: src).length) te.bytes = true) :
  gp te β l.length l.length (c :: src) nx (some (.row l.isEmpty (szc k l) (List.map e l))) =
   some (.row β (List.map e l ++ c :: src).length 0 (List.map e l ++ c :: src).length,[(β,.row false k (List.map e l ++ c :: src))],nx) := by
 subst hk
 cases l with
 | nil =>
  have hr' : ql (src.length + 1) te.bytes = true := by simpa using hr
  simp [gp,vw,hr']
 | cons a l =>
  have hr' : ql (l.length + 1 + (src.length + 1)) te.bytes = true := by simpa using hr
  simp [gp,szc,hr']
theorem qxk {γ : Type} (te : TI) (β k nx : Nat) (e : α → List PV) (e' : γ → List PV) (l : List α) (s : List γ) (hs : (l.isEmpty && s.isEmpty) = false) (hk : k = te.size) (hr : ql (l.length + s.length) te.bytes = true) :
  gp te β l.length l.length (List.map e' s) nx (some (.row l.isEmpty (szc k l) (List.map e l))) =
   some (.row β (List.map e l ++ List.map e' s).length 0 (List.map e l ++ List.map e' s).length,[(β,.row false k (List.map e l ++ List.map e' s))],nx) := by
 subst hk
 cases l with
 | nil =>
  cases s with
  | nil => simp at hs
  | cons c s =>
   have hr' : ql (s.length + 1) te.bytes = true := by simpa using hr
   simp [gp,vw,hr']
 | cons a l =>
  have hr' : ql (l.length + 1 + s.length) te.bytes = true := by simpa using hr
  simp [gp,szc,hr']
theorem qv8 {γ : Type} (te : TI) (β k nx : Nat) (e : α → List PV) (e' : γ → List PV) (l : List α) (s : List γ) (hs : (l.isEmpty && s.isEmpty) = true) :
  gp te β l.length l.length (List.map e' s) nx (some (.row l.isEmpty (szc k l) (List.map e l))) = some (.row β l.length 0 l.length,[],nx) := by
 cases l with
 | nil =>
  cases s with
  | nil => simp [gp,vw]
  | cons c s => simp at hs
 | cons a l => simp at hs
theorem qmv {γ : Type} {l s : List γ} (h : (l.isEmpty && s.isEmpty) = false) : (l ++ s).isEmpty = false := by cases l <;> cases s <;> simp_all
theorem q92 {γ : Type} {l s : List γ} (h : (l.isEmpty && s.isEmpty) = false) (k : Nat) : szc k (l ++ s) = k := by cases l <;> cases s <;> simp_all [szc]
end
structure zo where
 es : List (Int × Int × Nat)
 clock : Nat
 deriving Inhabited
def q1e (e : Int × Int × Nat) : PV × PV × Nat := (.int .i64 e.1,.int .i64 e.2.1,e.2.2)
def xm (k : Int) : List (Int × Int × Nat) → Nat → Option (Nat × Int × Nat)
 | [],_ => none
 | (x,v,b) :: r,i => if k == x then some (i,v,b) else xm k r (i + 1)
def xu (m : zo) (k : Int) : Bool := (xm k m.es 0).isSome
def ja (m : zo) (k : Int) : Int := match xm k m.es 0 with | some (_,v,_) => v | none => 0
def yj (m : zo) (k v : Int) : zo := match xm k m.es 0 with | some (i,_,b) => ⟨m.es.set i (k,v,b),m.clock⟩ | none => ⟨m.es ++ [(k,v,m.clock)],m.clock + 1⟩
theorem qgy (k : Int) : ∀ (l : List (Int × Int × Nat)) (i : Nat),findKey (.int .i64 k) (List.map q1e l) i = some ((xm k l i).map fun x => (x.1,.int .i64 x.2.1,x.2.2))
 | [],i => rfl
 | (x,v,b) :: r,i => by
  simp only [List.map_cons,q1e,findKey,q9s,xm,if_true]
  cases h : (k == x) with
  | true => simp
  | false => simp only [qgy k r (i + 1)]; simp
def qec (te : TI) (k : PV) (ok : Bool) : Option Blk → Option AV
 | some (.map es _) => match findKey k es 0 with
  | some (some (_,v,_)) => some (if ok then .tup [.pv v,.pv (.bool true)] else .pv v)
  | some none => some (if ok then .tup [.pv (q0c te),.pv (.bool false)] else .pv (q0c te))
  | none => none
 | _ => none
def qe3 (β : Nat) (k v : PV) : Option Blk → Option (List (Nat × Blk))
 | some (.map es clock) => match findKey k es 0 with
  | some (some (i,_,born)) => some [(β,.map (es.set i (k,v,born)) clock)]
  | some none => some [(β,.map (es ++ [(k,v,clock)]) (clock + 1))]
  | none => none
 | _ => none
def zfj (te : TI) (β : Nat) (k : PV) : Option Blk → Option (AV × List (Nat × Blk))
 | some (.map es clock) => match findKey k es 0 with
  | some (some (i,v,born)) => some (.tup [.pv v,.pv (.int .i64 born)],[(β,.map (es.set i (k,v,born)) clock)])
  | some none => some (.tup [.pv (q0c te),.pv (.int .i64 clock)],[(β,.map (es ++ [(k,q0c te,clock)]) (clock + 1))])
  | none => none
 | _ => none
def zt2 (β : Nat) (born : Int) (v : PV) : Option Blk → Option (List (Nat × Blk))
 | some (.map es clock) => match qc0 born es 0 with
  | some (i,k,b) => some [(β,.map (es.set i (k,v,b)) clock)]
  | none => none
 | _ => none
def z1w (β : Nat) (k : PV) : Option Blk → Option (List (Nat × Blk))
 | some (.map es clock) => match findKey k es 0 with
  | some (some (i,_,_)) => some [(β,.map (es.eraseIdx i) clock)]
  | some none => some [(β,.map es clock)]
  | none => none
 | _ => none
theorem zlx (tk te : TI) (β : Nat) (k : PV) (ok : Bool) (H : Heap) : q5g tk te (.map β) (.pv k) ok H = if xq tk.td k = true then qec te k ok (H.get β) else none := by
 unfold q5g q7g
 simp only
 split
 ·cases H.get β with
  | none => rfl
  | some b => cases b <;> rfl
 ·rfl
theorem zeu (tk : TI) (β : Nat) (k v : PV) (H : Heap) : q13 tk (.map β) (.pv k) v H = if xq tk.td k = true then qe3 β k v (H.get β) else none := by
 unfold q13
 simp only
 split
 ·cases H.get β with
  | none => rfl
  | some b => cases b <;> rfl
 ·rfl
theorem zkm (tk te : TI) (β : Nat) (k : PV) (H : Heap) : q2l tk te (.map β) (.pv k) H = if xq tk.td k = true then zfj te β k (H.get β) else none := by
 unfold q2l
 simp only
 split
 ·cases H.get β with
  | none => rfl
  | some b => cases b <;> rfl
 ·rfl
theorem qqw (β : Nat) (kd : IntKind) (born : Int) (v : PV) (H : Heap) : q19 (.map β) (.pv (.int kd born)) v H = zt2 β born v (H.get β) := by
 unfold q19
 simp only
 cases H.get β with
 | none => rfl
 | some b => cases b <;> rfl
theorem z2k (tk : TI) (β : Nat) (k : PV) (H : Heap) : q27 tk (.map β) (.pv k) H = if xq tk.td k = true then z1w β k (H.get β) else none := by
 unfold q27
 simp only
 split
 ·cases H.get β with
  | none => rfl
  | some b => cases b <;> rfl
 ·rfl
section
variable (b : Bool) (β : Nat) (m : zo) (k : Int)
theorem zjt : qec ⟨1,8,.int .i64,[.int .i64 0],b⟩ (.int .i64 k) true (some (.map (List.map q1e m.es) m.clock)) = some (.tup [.pv (.int .i64 (ja m k)),.pv (.bool (xu m k))]) := by
 simp only [qec,qgy,ja,xu]
 cases xm k m.es 0 <;> simp [q0c,TI.isAgg]
theorem zev (v : Int) : qe3 β (.int .i64 k) (.int .i64 v) (some (.map (List.map q1e m.es) m.clock)) = some [(β,.map (List.map q1e (yj m k v).es) (yj m k v).clock)] := by
 simp only [qe3,qgy,yj]
 cases xm k m.es 0 <;> simp [q1e,List.map_set]
end
theorem qia (k : Int) : ∀ (l : List (Int × Int × Nat)) (e : Int × Int × Nat) (i : Nat),xm k (l ++ [e]) i = match xm k l i with | some x => some x | none => if k == e.1 then some (i + l.length,e.2.1,e.2.2) else none
 | [],e,i => by simp [xm]
 | (x,v,b) :: r,e,i => by
  simp only [List.cons_append,xm]
  split
  ·rfl
  ·rw [qia k r e (i + 1)]
   simp only [List.length_cons]
   have : i + 1 + r.length = i + (r.length + 1) := by omega
   rw [this]
theorem qhk (k k' : Int) (v : Int) : ∀ (l : List (Int × Int × Nat)) (i j : Nat) (w : Int) (b : Nat),xm k l i = some (i + j,w,b) →
  xm k' (l.set j (k,v,b)) i = if k' == k then some (i + j,v,b) else xm k' l i
 | [],i,j,w,b,h => by simp [xm] at h
 | (x,u,c) :: r,i,j,w,b,h => by
  simp only [xm] at h
  split at h
  ·rename_i hk
   simp only [Option.some.injEq,Prod.mk.injEq] at h
   obtain ⟨h1,rfl,rfl⟩ := h
   have : j = 0 := by omega
   subst this
   simp only [beq_iff_eq] at hk
   subst hk
   simp only [List.set_cons_zero,xm,Nat.add_zero]
   by_cases e : k' = k <;> simp [e]
  ·rename_i hk
   have hge : ∀ (l : List (Int × Int × Nat)) (n m : Nat) (w : Int) (b : Nat),xm k l n = some (m,w,b) → n ≤ m := by
    intro l
    induction l with
    | nil => intro n m w b h; simp [xm] at h
    | cons y r ih =>
     intro n m w b h
     simp only [xm] at h
     split at h
     ·cases h; exact Nat.le_refl _
     ·have := ih (n + 1) m w b h; omega
   have := hge r (i + 1) (i + j) w b h
   obtain ⟨j',rfl⟩ : ∃ j',j = j' + 1 := ⟨j - 1,by omega⟩
   have h' : xm k r (i + 1) = some (i + 1 + j',w,b) := by rw [h]; congr 2; omega
   have ih := qhk k k' v r (i + 1) j' w b h'
   simp only [List.set_cons_succ,xm,ih]
   by_cases e1 : k' = x
   ·subst e1
    have : (k == k') = false := by simpa using hk
    have h2 : (k' == k) = false := by simp at this ⊢; exact fun h => this h.symm
    simp [h2]
   ·have : (k' == x) = false := by simpa using e1
    simp only [this,Bool.false_eq_true,if_false]
    have : i + 1 + j' = i + (j' + 1) := by omega
    rw [this]
theorem qlw (m : zo) (k v k' : Int) : xm k' (yj m k v).es 0 = if k' == k then some (((xm k (yj m k v).es 0).getD (0,0,0)).1,v,((xm k (yj m k v).es 0).getD (0,0,0)).2.2) else xm k' m.es 0 := by
 unfold yj
 cases h : xm k m.es 0 with
 | none =>
  simp only [qia,h]
  by_cases e : k' = k
  ·subst e; simp [h]
  ·have : (k' == k) = false := by simpa using e
   simp only [this,Bool.false_eq_true,if_false]
   cases xm k' m.es 0 <;> rfl
 | some x =>
  obtain ⟨i,w,b⟩ := x
  have h' : xm k m.es 0 = some (0 + i,w,b) := by simpa using h
  simp only [qhk k k' v m.es 0 i w b h',qhk k k v m.es 0 i w b h']
  by_cases e : k' = k <;> simp [e]
theorem qd2 (m : zo) (k v k' : Int) : ja (yj m k v) k' = if k' = k then v else ja m k' := by
 unfold ja
 rw [qlw]
 by_cases e : k' = k <;> simp [e]
theorem qdh (m : zo) (k v k' : Int) : xu (yj m k v) k' = if k' = k then true else xu m k' := by
 unfold xu
 rw [qlw]
 by_cases e : k' = k <;> simp [e]
theorem qi9 (k : Int) : xu ⟨[],0⟩ k = false := rfl
theorem zx {α : Type} {l : List α} {n : Nat} (h : n < l.length) : qc l (n : Int) = some l[n] := by simp [qc,h]
theorem zbw {α β : Type} (f : α → β) (a : α) (l : List α) : List.map f (a :: l) = f a :: List.map f l := rfl
theorem zd7 {α β : Type} (f : α → β) : List.map f ([] : List α) = [] := rfl
theorem qww {α : Type} : ([] : List α).length = 0 := rfl
theorem z3f {α : Type} (a : α) (l : List α) : (a :: l).length = l.length + 1 := rfl
theorem zq4 {α : Type} (l : List α) (x : α) : (l.length < (l ++ [x]).length) = True := by simp
theorem qzd {α β : Type} (f : α → β) (l : List α) (x : β) : (l.length < (List.map f l ++ [x]).length) = True := by simp
theorem qi1 {α : Type} (l : List α) (i : Nat) (x : α) : (l.set i x).length = l.length := List.length_set
def zj8 := PLift.up (And.intro @zbw (And.intro @zd7 (And.intro @qww (And.intro @z3f (And.intro @ze (And.intro @qmi (And.intro @qkj (And.intro @qkd (And.intro @qkg (And.intro @qjn (And.intro @qle (And.intro @qjf (And.intro @qi1 (And.intro @zb @za))))))))))))))
theorem qk7 {α : Type} {P : Program} {t : TypeId} {e : α → List PV} {ok : α → Prop} {n : Nat} (h : Reads P t e ok n) : Reads P t e (fun _ => True) n := h.map (fun x => x) (fun _ _ => ⟨trivial,rfl⟩)
def q0h {α : Type} (_ : α) : Prop := True
def inI (n : Int) : Prop := -9223372036854775808 ≤ n ∧ n ≤ 9223372036854775807
def ve (s : Bytes) : Prop := s.length ≤ maxLen
def yw {α : Type} (ok : α → Prop) (s : Sl α) : Prop := (s.l.length ≤ maxLen ∧ (s.nil = true → s.l = [])) ∧ ∀ a ∈ s.l,ok a
theorem drop_cons {α : Type} {xs : List α} {i : Nat} {x : α} {r : List α} (h : xs.drop i = x :: r) : xs[i]? = some x ∧ xs.drop (i + 1) = r ∧ i < xs.length := by
 have h1 : xs[i]? = some x := by
  have := congrArg (fun l => l[0]?) h
  simpa using this
 have h2 : xs.drop (i + 1) = r := by
  have := congrArg (fun l => l.drop 1) h
  simpa [List.drop_drop] using this
 exact ⟨h1,h2,(List.getElem?_eq_some_iff.1 h1).1⟩
theorem nk {α : Type} {xs : List α} {i : Nat} (h : xs.drop i = []) : xs.length ≤ i := by simpa using h
theorem q9 {n : Int} (h1 : -9223372036854775808 ≤ n) (h2 : n ≤ 9223372036854775807) : IntKind.i64.wrap n = n := IntWalk.i64_in n ⟨h1,h2⟩
theorem q1o {n : Nat} (h : n < 9223372036854775807) : IntKind.i64.wrap ((n : Int) + 1) = ((n + 1 : Nat) : Int) := q9 (by omega) (by omega)
theorem zk4 (b : Bool) : AV.cells (.pv (.bool b)) = [(.pv (.bool b))] := rfl
theorem z8m (k : IntKind) (n : Int) : AV.cells (.pv (.int k n)) = [(.pv (.int k n))] := rfl
theorem zet (l : List UInt8) : AV.cells (.pv (.str l)) = [(.pv (.str l))] := rfl
theorem qy4 (a : Bool) (b : Nat) (c : List (List PV)) : AV.cells (.pv (.sl a b c)) = [(.pv (.sl a b c))] := rfl
theorem z6y : AV.cells (.pv (.nilptr)) = [(.pv (.nilptr))] := rfl
theorem zef : AV.cells (.pv (.nilfn)) = [(.pv (.nilfn))] := rfl
theorem zpu : AV.cells (.pv (.nilmap)) = [(.pv (.nilmap))] := rfl
theorem z3m : AV.cells (.pv (.nilif)) = [(.pv (.nilif))] := rfl
theorem zm8 (f : FuncId) : AV.cells (.pv (.fn f)) = [(.pv (.fn f))] := rfl
theorem qx3 (c : List PV) : AV.cells (.pv (.rp c)) = [(.pv (.rp c))] := rfl
theorem zex (c : List PV) : AV.cells (.pv (.agg c)) = c.map .pv := rfl
theorem z1q (x y : Nat) : AV.cells (.ptr x y) = [(.ptr x y)] := rfl
theorem qys (x y z u : Nat) : AV.cells (.eptr x y z u) = [(.eptr x y z u)] := rfl
theorem qs9 (c : List PV) (x : Nat) : AV.cells (.rptr c x) = [(.rptr c x)] := rfl
theorem qs0 (x y z u : Nat) : AV.cells (.row x y z u) = [(.row x y z u)] := rfl
theorem z90 : AV.cells (.zsl) = [(.zsl)] := rfl
theorem zk5 (x : Nat) : AV.cells (.map x) = [(.map x)] := rfl
theorem qso (f : FuncId) (a b : List AV) : AV.cells (.clo f a b) = [(.clo f a b)] := rfl
theorem zeg (l : List AV) : AV.cells (.tup l) = [(.tup l)] := rfl
theorem zlz (c : List AV) : AV.cells (.agg c) = c := rfl
abbrev v_i (n : Int) : AV := .pv (.int .i64 n)
abbrev v_b (b : Bool) : AV := .pv (.bool b)
abbrev v_s (s : Bytes) : AV := .pv (.str s)
abbrev v_g (l : List PV) : AV := .pv (.agg l)
abbrev v_l {α : Type} (k : Nat) (e : α → List PV) (s : Sl α) : AV := .pv (.sl s.nil (szc k s.l) (List.map e s.l))
abbrev v_r {α : Type} (β : Nat) (l : List α) : AV := .row β l.length 0 l.length
abbrev b_x (l : List PV) : Blk := .box (List.map .pv l)
abbrev b_r {α : Type} (k : Nat) (e : α → List PV) (l : List α) : Blk := .row l.isEmpty (szc k l) (List.map e l)
abbrev b_m (m : zo) : Blk := .map (List.map q1e m.es) m.clock
theorem z7y (n : Int) : v_i n = .pv (.int .i64 n) := rfl
theorem zkl (b : Bool) : v_b b = .pv (.bool b) := rfl
theorem qz3 (s : Bytes) : v_s s = .pv (.str s) := rfl
theorem zku (l : List PV) : v_g l = .pv (.agg l) := rfl
theorem zms {α : Type} (k : Nat) (e : α → List PV) (s : Sl α) : v_l k e s = .pv (.sl s.nil (szc k s.l) (List.map e s.l)) := rfl
theorem qyo {α : Type} (β : Nat) (l : List α) : v_r β l = .row β l.length 0 l.length := rfl
theorem zjg (l : List PV) : b_x l = .box (List.map .pv l) := rfl
theorem z9l {α : Type} (k : Nat) (e : α → List PV) (l : List α) : b_r k e l = .row l.isEmpty (szc k l) (List.map e l) := rfl
theorem zg5 (m : zo) : b_m m = .map (List.map q1e m.es) m.clock := rfl
theorem zi2 (b : UInt8) : qj b = [.int .u8 b.toNat] := rfl
theorem zeo (n : Int) : qg n = [.int .i64 n] := rfl
theorem qx1 (s : Bytes) : qh s = [.str s] := rfl
theorem qq9 (b : Bool) : qp5 b = [.bool b] := rfl
theorem z98 (k : IntKind) (n : Int) : kE k n = [.int k n] := rfl
theorem zga {α : Type} (k : Nat) (e : α → List PV) (s : Sl α) : slE k e s = [.sl s.nil (szc k s.l) (List.map e s.l)] := rfl
theorem z8e {α : Type} (e : α → List PV) (s : α × α) : qn1 e s = e s.1 ++ e s.2 := rfl
def z96 := PLift.up (And.intro @z7y (And.intro @zkl (And.intro @qz3 (And.intro @zku (And.intro @zms (And.intro @qyo (And.intro @zjg (And.intro @z9l (And.intro @zg5 (And.intro @zi2 (And.intro @zeo (And.intro @qx1 (And.intro @qq9 (And.intro @z98 (And.intro @zga @z8e)))))))))))))))
section
variable {α β : Type} {r : β} {P : Prop}
theorem bs {o : Option α} {k : α → Option β} (f : ∀ x,o = some x → k x = some r → P) (h : o >>= k = some r) : P := by
 obtain ⟨x,h1,h2⟩ := Option.bind_eq_some_iff.1 h
 exact f x h1 h2
theorem it {b : Bool} {p q : Option β} (f : b = true → p = some r → P) (g : b = false → q = some r → P) (h : (if b = true then p else q) = some r) : P := by
 cases b
 ·exact g rfl h
 ·exact f rfl h
theorem gd {Q : Prop} [Decidable Q] {p : Option β} (f : Q → p = some r → P) (h : (if Q then p else none) = some r) : P := by
 split at h
 ·exact f ‹_› h
 ·cases h
variable {l : List α} {i lo hi : Int}
theorem bg {k : α → Option β} (e : α → List PV) (f : ∀ x,qc l i = some x → (∀ kd,xc (.pv (.int kd i)) = some i.toNat) → (List.map e l)[i.toNat]? = some (e x) → (∀ z,(szc z l = z) = True) → k x = some r → P) (h : qc l i >>= k = some r) : P :=
 bs (fun x hx => f x hx (qeg hx) (qfc e hx) (qs6 hx)) h
theorem bw {k : α → Option β} (e : α → List PV) (f : ∀ x,qc l i = some x → (∀ kd,xc (.pv (.int kd i)) = some i.toNat) → (List.map e l)[i.toNat]? = some (e x) → (i.toNat < l.length) = True → k x = some r → P) (h : qc l i >>= k = some r) : P :=
 bs (fun x hx => f x hx (qeg hx) (qfc e hx) (qg5 hx)) h
theorem bW {k : α → Option β} (e : α → List PV) (z : Nat) (f : ∀ x,qc l i = some x → (∀ kd,xc (.pv (.int kd i)) = some i.toNat) → (List.map e l)[i.toNat]? = some (e x) → (i.toNat < l.length) = True → l.isEmpty = false → szc z l = z → k x = some r → P) (h : qc l i >>= k = some r) : P :=
 bs (fun x hx => f x hx (qeg hx) (qfc e hx) (qg5 hx) (z94 hx) (qo5 hx z)) h
theorem bc {k : α → Option β} (f : ∀ x,qc l i = some x → (∀ kd,xc (.pv (.int kd i)) = some i.toNat) → l[i.toNat]? = some x → k x = some r → P) (h : qc l i >>= k = some r) : P :=
 bs (fun x hx => f x hx (qeg hx) (qbj hx)) h
variable {k : List α → Option β}
theorem b2s (f : ∀ x,sub2 l lo hi = some x → (∀ kd,xc (.pv (.int kd lo)) = some lo.toNat) → (∀ kd,xc (.pv (.int kd hi)) = some hi.toNat) → (lo.toNat ≤ hi.toNat) = True → (hi.toNat ≤ l.length) = True → (l.take hi.toNat).drop lo.toNat = x → k x = some r → P) (h : sub2 l lo hi >>= k = some r) : P :=
 bs (fun x hx => f x hx (qlx hx) (qjw hx) (qji hx) (qna hx) (qbv hx)) h
theorem b2 (e : α → List PV) (f : ∀ x,sub2 l lo hi = some x → (∀ kd,xc (.pv (.int kd lo)) = some lo.toNat) → (∀ kd,xc (.pv (.int kd hi)) = some hi.toNat) → (lo.toNat ≤ hi.toNat) = True → (hi.toNat ≤ l.length) = True → ((List.map e l).take hi.toNat).drop lo.toNat = List.map e x → (∀ z,szc (szc z l) x = szc z x) → k x = some r → P) (h : sub2 l lo hi >>= k = some r) : P :=
 bs (fun x hx => f x hx (qlx hx) (qjw hx) (qji hx) (qna hx) (zfu e hx) (zks hx)) h
theorem bFs (f : ∀ x,jr l lo = some x → (∀ kd,xc (.pv (.int kd lo)) = some lo.toNat) → (lo.toNat ≤ l.length) = True → l.drop lo.toNat = x → k x = some r → P) (h : jr l lo >>= k = some r) : P :=
 bs (fun x hx => f x hx (qit hx) (qiz hx) (qfm hx)) h
theorem bF (e : α → List PV) (f : ∀ x,jr l lo = some x → (∀ kd,xc (.pv (.int kd lo)) = some lo.toNat) → (lo.toNat ≤ l.length) = True → (List.map e l).drop lo.toNat = List.map e x → (∀ z,szc (szc z l) x = szc z x) → k x = some r → P) (h : jr l lo >>= k = some r) : P :=
 bs (fun x hx => f x hx (qit hx) (qiz hx) (zru e hx) (qpm hx)) h
theorem bT (e : α → List PV) (f : ∀ x,gq l hi = some x → (∀ kd,xc (.pv (.int kd hi)) = some hi.toNat) → (hi.toNat ≤ l.length) = True → (List.map e l).take hi.toNat = List.map e x → (∀ z,szc (szc z l) x = szc z x) → k x = some r → P) (h : gq l hi >>= k = some r) : P :=
 bs (fun x hx => f x hx (zs1 hx) (qq2 hx) (zqw e hx) (z5j hx)) h
variable {s : List α}
theorem rG (k : Nat) (e : α → List PV) (l : List α) (te : TI) (β nx : Nat) (c : List PV) (hk : k = te.size) (hr : ql (l.length + 1) te.bytes = true) :
  gp te β l.length l.length [c] nx (some (.row l.isEmpty (szc k l) (List.map e l))) = some (.row β (List.map e l ++ [c]).length 0 (List.map e l ++ [c]).length,[(β,.row false k (List.map e l ++ [c]))],nx) := qgv te β k nx e l c [] hk hr
theorem rA (e : α → List PV) (hs : (l.isEmpty && s.isEmpty) = true) (te : TI) (β k nx : Nat) : gp te β l.length l.length (List.map e s) nx (some (.row l.isEmpty (szc k l) (List.map e l))) = some (.row β l.length 0 l.length,[],nx) := qv8 te β k nx e e l s hs
theorem rB (e : α → List PV) (hs : (l.isEmpty && s.isEmpty) = false) (te : TI) (β k nx : Nat) (hk : k = te.size) (hr : ql (l.length + s.length) te.bytes = true) :
  gp te β l.length l.length (List.map e s) nx (some (.row l.isEmpty (szc k l) (List.map e l))) = some (.row β (List.map e l ++ List.map e s).length 0 (List.map e l ++ List.map e s).length,[(β,.row false k (List.map e l ++ List.map e s))],nx) := qxk te β k nx e e l s hs hk hr
end
section
variable (m : zo) (k v : Int) (b : Bool) (β : Nat)
theorem mG2 : qec ⟨1,8,.int .i64,[.int .i64 0],b⟩ (.int .i64 k) true (some (.map (List.map q1e m.es) m.clock)) = some (.tup [.pv (.int .i64 (ja m k)),.pv (.bool (xu m k))]) := zjt b m k
theorem mP : qe3 β (.int .i64 k) (.int .i64 v) (some (.map (List.map q1e m.es) m.clock)) = some [(β,.map (List.map q1e (yj m k v).es) (yj m k v).clock)] := zev β m k v
end
theorem fF {G : GP} {f : FuncId} {S : Special} {nt : Nat} {ob : Option Code} {ra : Array ResultVar} (hfi : G.fn f = some ⟨nt,ra.toList,ob.get!⟩) {c : Code} {rs : List ResultVar} {H : Heap} {args : List AV} {r : Option (AV × Heap)}
  (hs : S.call f = none := by rfl) (hc : ob = some c := by rfl) (hr : ra = ⟨rs⟩ := by rfl) (hk : ky 0 H = true := by rfl)
  (h : qb6 G f H.length rs (cont G (omega G S) f [.code c] (.normal,⟨tu 0 args,H,H.length⟩)) = r := by
   simp (maxSteps := 2000000) (disch := first | assumption | rfl | exact qgz.mk (by kernel_rfl)) only [go_sem,↓reduceIte,Nat.reduceLeDiff,Nat.reduceEqDiff,Nat.reduceLT,Nat.reduceAdd,Nat.reduceSub,Nat.reduceMul,reduceCtorEq,Nat.reducePow, *]) :
  (omega G S).call f args H = r := zns hs hfi hc hr hk h
theorem fL {G : GP} {f : FuncId} {S : Special} {fi : FI} (hfi : G.fn f = some fi) {id : Nat} {c : Code} {s : St} {r : Option (Ex × St)}
  (hc : zn fi.body id = some c := by rfl)
  (h : roundEnd G (omega G S) f id s.nx (cont G (omega G S) f [.code c] (.normal,s)) = r := by
   simp (maxSteps := 2000000) (disch := first | assumption | rfl | exact qgz.mk (by kernel_rfl)) only [go_sem,↓reduceIte,Nat.reduceLeDiff,Nat.reduceEqDiff,Nat.reduceLT,Nat.reduceAdd,Nat.reduceSub,Nat.reduceMul,reduceCtorEq,Nat.reducePow, *]) :
  (omega G S).loop f id s = r := zrk hfi hc h
def refsOf (H : Heap) : List Nat → List Nat
 | [] => []
 | β :: r => (yn H β).refs ++ refsOf H r
theorem qlz (H : Heap) : ∀ d : List Nat,(d.flatMap fun β => (yn H β).refs) = refsOf H d
 | [] => rfl
 | β :: r => by rw [List.flatMap_cons,qlz H r]; rfl
theorem qto (H : Heap) (d roots : List Nat) : q1k H d roots = match roots,d with
 | [],[] => some ([],[])
 | roots,d => let L := reach H 400 (roots ++ refsOf H d) d
  if q38 roots L && closedIn H L L then some (L,pick H (pos L) 0 L) else none := by
 cases roots <;> cases d <;> first | rfl | simp only [q1k,qlz]
theorem z4q (H : Heap) : jc .ptr (.pv .nilptr) H = some true := rfl
theorem z3a (H : Heap) (β o : Nat) : jc .ptr (.ptr β o) H = some false := rfl
theorem zad (H : Heap) (c : List PV) (o : Nat) : jc .ptr (.rptr c o) H = some false := rfl
theorem z2l (H : Heap) (β ver i o : Nat) : jc .ptr (.eptr β ver i o) H = some false := rfl
theorem z8h (H : Heap) (c : List PV) : jc .ptr (.pv (.rp c)) H = some false := rfl
theorem qxl (H : Heap) (e : TypeId) (b : Bool) (sz : Nat) (es : List (List PV)) : jc (.slice e) (.pv (.sl b sz es)) H = some b := rfl
theorem z0v (H : Heap) (e : TypeId) : jc (.slice e) .zsl H = some false := rfl
theorem z9g (H : Heap) (e : TypeId) (β ver off n : Nat) : jc (.slice e) (.row β ver off n) H = match H.get β with | some (.row b _ es) => if ver = es.length then some b else none | _ => none := rfl
theorem z4w (H : Heap) (k e : TypeId) : jc (.map k e) (.pv .nilmap) H = some true := rfl
theorem zbf (H : Heap) (k e : TypeId) (β : Nat) : jc (.map k e) (.map β) H = some false := rfl
theorem zj5 (H : Heap) : jc .func (.pv .nilfn) H = some true := rfl
theorem zic (H : Heap) (f : FuncId) : jc .func (.pv (.fn f)) H = some false := rfl
theorem zkc (H : Heap) (f : FuncId) (a b : List AV) : jc .func (.clo f a b) H = some false := rfl
theorem take_set {α β : Type} (e : α → β) (l : List α) (i : Nat) (x : α) : (List.map e (l.set i x)).take l.length = List.map e (l.set i x) := by
 have h : (l.set i x).length = l.length := List.length_set
 rw [← List.map_take,← h,List.take_length]
end Go.Gm
namespace Go.Gm
open Go
end Go.Gm
