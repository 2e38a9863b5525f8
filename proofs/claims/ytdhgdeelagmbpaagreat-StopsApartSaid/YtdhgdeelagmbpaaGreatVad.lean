/-
  The machine, part d.
-/
import Derived.Test.YtdhgdeelagmbpaaGreatVac
set_option linter.unusedSimpArgs false
set_option linter.unusedVariables false
namespace Go.Gm
open Go
abbrev Bytes := List UInt8
structure Sl (α : Type) where
 nil : Bool
 l : List α
 deriving Inhabited,DecidableEq
def qg (s : Bytes) : List PV := [.str s]
def qf (n : Int) : List PV := [.int .i64 n]
def kE (k : IntKind) (n : Int) : List PV := [.int k n]
def q5g (b : Bool) : List PV := [.bool b]
def qj (b : UInt8) : List PV := [.int .u8 b.toNat]
def slE {α : Type} (k : Nat) (e : α → List PV) (s : Sl α) : List PV := [.sl s.nil (szc k s.l) (List.map e s.l)]
def qlg {α : Type} (e : α → List PV) (s : α × α) : List PV := e s.1 ++ e s.2
abbrev Dum : Prop := ∀ x : Bool,(x && true) = x
def qh {α : Type} (l : List α) (i : Int) : Option α := if 0 ≤ i then l[i.toNat]? else none
def sub2 {α : Type} (l : List α) (lo hi : Int) : Option (List α) := if (0 ≤ lo ∧ 0 ≤ hi) ∧ (lo.toNat ≤ hi.toNat ∧ hi.toNat ≤ l.length) then some ((l.take hi.toNat).drop lo.toNat) else none
def ku {α : Type} (l : List α) (lo : Int) : Option (List α) := if 0 ≤ lo ∧ lo.toNat ≤ l.length then some (l.drop lo.toNat) else none
def gm {α : Type} (l : List α) (hi : Int) : Option (List α) := if 0 ≤ hi ∧ hi.toNat ≤ l.length then some (l.take hi.toNat) else none
def u8 (n : Int) : UInt8 := UInt8.ofNat n.toNat
def room (n b : Nat) : Bool := ql n b
section
variable {α : Type} {l : List α} {i lo hi : Int} {x : α} {r : List α}
theorem qeg (h : qh l i = some x) (k : IntKind) : zx (.pv (.int k i)) = some i.toNat := by
 unfold qh at h; split at h
 ·rename_i h0; simp [zx,h0]
 ·cases h
theorem qhj (k : IntKind) {n : Int} (h : 0 ≤ n) : zx (.pv (.int k n)) = some n.toNat := by simp [zx,h]
theorem qcd (h : qh l i = some x) : l[i.toNat]? = some x := by
 unfold qh at h; split at h
 ·exact h
 ·cases h
theorem qgy {β : Type} (e : α → β) (h : qh l i = some x) : (List.map e l)[i.toNat]? = some (e x) := by simp [qcd h]
theorem qzx (h : qh l i = some x) : l.isEmpty = false := by
 have := qcd h; cases l <;> simp_all
theorem qk4 (h : qh l i = some x) (k : Nat) : szc k l = k := by
 have := qcd h; cases l <;> simp_all [szc]
theorem zdx (h : qh l i = some x) (k : Nat) : (szc k l = k) = True := by simp [qk4 h]
theorem qjh (h : qh l i = some x) : (i.toNat < l.length) = True := by
 have := qcd h; simp only [eq_iff_iff,iff_true]; exact (List.getElem?_eq_some_iff.1 this).1
theorem qj6 (h : sub2 l lo hi = some r) (k : IntKind) : zx (.pv (.int k lo)) = some lo.toNat := by
 unfold sub2 at h; split at h
 ·rename_i h0; simp [zx,h0.1.1]
 ·cases h
theorem qmg (h : sub2 l lo hi = some r) (k : IntKind) : zx (.pv (.int k hi)) = some hi.toNat := by
 unfold sub2 at h; split at h
 ·rename_i h0; simp [zx,h0.1.2]
 ·cases h
theorem ql6 (h : sub2 l lo hi = some r) : (lo.toNat ≤ hi.toNat) = True := by
 unfold sub2 at h; split at h
 ·rename_i h0; simp [h0.2.1]
 ·cases h
theorem qk6 (h : sub2 l lo hi = some r) : (hi.toNat ≤ l.length) = True := by
 unfold sub2 at h; split at h
 ·rename_i h0; simp [h0.2.2]
 ·cases h
theorem qbu (h : sub2 l lo hi = some r) : (l.take hi.toNat).drop lo.toNat = r := by
 unfold sub2 at h; split at h <;> simp_all
theorem qmm (h : ku l lo = some r) (k : IntKind) : zx (.pv (.int k lo)) = some lo.toNat := by
 unfold ku at h; split at h
 ·rename_i h0; simp [zx,h0.1]
 ·cases h
theorem qmz (h : ku l lo = some r) : (lo.toNat ≤ l.length) = True := by
 unfold ku at h; split at h
 ·rename_i h0; simp [h0.2]
 ·cases h
theorem qf4 (h : ku l lo = some r) : l.drop lo.toNat = r := by
 unfold ku at h; split at h <;> simp_all
theorem za6 (h : gm l hi = some r) (k : IntKind) : zx (.pv (.int k hi)) = some hi.toNat := by
 unfold gm at h; split at h
 ·rename_i h0; simp [zx,h0.1]
 ·cases h
theorem z3a (h : gm l hi = some r) : (hi.toNat ≤ l.length) = True := by
 unfold gm at h; split at h
 ·rename_i h0; simp [h0.2]
 ·cases h
theorem qm3 (h : gm l hi = some r) : l.take hi.toNat = r := by
 unfold gm at h; split at h <;> simp_all
theorem z8i {β : Type} (e : α → β) (h : sub2 l lo hi = some r) : ((List.map e l).take hi.toNat).drop lo.toNat = List.map e r := by rw [← List.map_take,← List.map_drop,qbu h]
theorem qur {β : Type} (e : α → β) (h : ku l lo = some r) : (List.map e l).drop lo.toNat = List.map e r := by rw [← List.map_drop,qf4 h]
theorem z4i {β : Type} (e : α → β) (h : gm l hi = some r) : (List.map e l).take hi.toNat = List.map e r := by rw [← List.map_take,qm3 h]
theorem zgk (h : sub2 l lo hi = some r) (k : Nat) : szc (szc k l) r = szc k r := by
 have := qbu h
 cases r with
 | nil => rfl
 | cons => cases l <;> simp_all [szc]
theorem za0 (h : ku l lo = some r) (k : Nat) : szc (szc k l) r = szc k r := by
 have := qf4 h
 cases r with
 | nil => rfl
 | cons => cases l <;> simp_all [szc]
theorem z1b (h : gm l hi = some r) (k : Nat) : szc (szc k l) r = szc k r := by
 have := qm3 h
 cases r with
 | nil => rfl
 | cons => cases l <;> simp_all [szc]
theorem qlu {β : Type} (k : Nat) (e : α → β) (l : List α) : szc k (List.map e l) = szc k l := by cases l <;> rfl
theorem z2y (k : Nat) (l : List α) : szc (szc k l) l = szc k l := by cases l <;> rfl
theorem zb (k : Nat) : szc k ([] : List α) = 0 := rfl
theorem qm6 (k : Nat) (x : α) (l : List α) : szc k (x :: l) = k := rfl
theorem qia (k : Nat) (l : List α) (x : α) (r : List α) : szc k (l ++ x :: r) = k := by cases l <;> rfl
theorem qm2 (k : Nat) (l : List α) (i : Nat) (x : α) : szc k (l.set i x) = szc k l := by cases l <;> cases i <;> rfl
theorem qjg {β : Type} (e : α → β) (l : List α) : (List.map e l).isEmpty = l.isEmpty := by cases l <;> rfl
theorem qk5 (l : List α) (x : α) (r : List α) : (l ++ x :: r).isEmpty = false := by cases l <;> rfl
theorem ql4 (l : List α) (i : Nat) (x : α) : (l.set i x).isEmpty = l.isEmpty := by cases l <;> cases i <;> rfl
theorem qni (x : α) (l : List α) : (x :: l).isEmpty = false := rfl
theorem qkb : ([] : List α).isEmpty = true := rfl
theorem jd {β : Type} (k : Nat) (e : α → β) (l : List α) : (szc k l = k ∨ List.map e l = []) = True := by cases l <;> simp [szc]
theorem take_len {β : Type} (e : α → β) (l : List α) : (List.map e l).take l.length = List.map e l := by rw [← List.map_take,List.take_length]
theorem q65 {β : Type} (e : α → β) (l r : List α) : List.map e l ++ List.map e r = List.map e (l ++ r) := by simp
theorem map_set {β : Type} (e : α → β) (l : List α) (i : Nat) (x : α) : (List.map e l).set i (e x) = List.map e (l.set i x) := by simp [List.map_set]
theorem z1h (s : Bytes) : List.map (fun b => [PV.int .u8 (b.toNat : Int)]) s = List.map qj s := rfl
theorem bytesOf_map : ∀ s : Bytes,bytesOf (List.map qj s) = some s
 | [] => rfl
 | b :: s => by simp [qj,bytesOf,bytesOf_map s]
theorem za (b : UInt8) : u8 (b.toNat : Int) = b := by simp [u8]
theorem z8 (n : Int) : ((u8 (IntKind.u8.wrap n)).toNat : Int) = IntKind.u8.wrap n := by
 have h : 0 ≤ IntKind.u8.wrap n ∧ IntKind.u8.wrap n < 256 := by
  simp only [IntKind.wrap,IntKind.bits,IntKind.signed]
  constructor
  ·simp; omega
  ·simp; omega
 simp only [u8,UInt8.toNat_ofNat']
 omega
theorem zlf : List.range 1 = [0] := rfl
theorem zdp : List.range 2 = [0,1] := rfl
theorem qxv : List.range 3 = [0,1,2] := rfl
theorem zdu : List.range 4 = [0,1,2,3] := rfl
theorem z6p : List.range 5 = [0,1,2,3,4] := rfl
theorem zc2 : List.range 6 = [0,1,2,3,4,5] := rfl
def ni (te : TI) (β L n : Nat) (src : List (List PV)) (nx : Nat) : Option Blk → Option Eff
 | some (.row true _ es) => if L = es.length ∧ n = 0 then yf te (.row β L 0 n) src β nx nx else none
 | some (.row false sz es) =>
  if L = es.length ∧ sz = te.size ∧ ql (n + src.length) te.bytes = true then
   if n = es.length then some (.row β (es ++ src).length 0 (es ++ src).length,[(β,.row false te.size (es ++ src))],nx)
   else some (.row β (es.take n ++ src ++ es.drop (n + src.length)).length 0 (n + src.length),[(β,.row false te.size (es.take n ++ src ++ es.drop (n + src.length)))],nx)
  else none
 | _ => none
theorem qzh (te : TI) (β L n nx sz : Nat) (es src : List (List PV)) : ni te β L n src nx (some (.row false sz es)) =
  if L = es.length ∧ sz = te.size ∧ ql (n + src.length) te.bytes = true then
   if n = es.length then some (.row β (es ++ src).length 0 (es ++ src).length,[(β,.row false te.size (es ++ src))],nx)
   else some (.row β (es.take n ++ src ++ es.drop (n + src.length)).length 0 (n + src.length),[(β,.row false te.size (es.take n ++ src ++ es.drop (n + src.length)))],nx)
  else none := rfl
theorem zac (te : TI) (β L n nx sz : Nat) (es src : List (List PV)) : ni te β L n src nx (some (.row true sz es)) = if L = es.length ∧ n = 0 then yf te (.row β L 0 n) src β nx nx else none := rfl
def qel (te : TI) (β L n : Nat) (H : Heap) (nx : Nat) (d : Option Eff) : Option (Nat × List (List PV)) → Option Eff
 | none => d
 | some (xsz,src) => if (xsz = te.size ∨ src = []) ∧ 0 < te.size then ni te β L n src nx (H.get β) else none
theorem qpx (te : TI) (β L n : Nat) (x : AV) (H : Heap) (nx : Nat) : mq te (.row β L 0 n) x H nx = qel te β L n H nx (q1r te (.row β L 0 n) x H nx) (ym x H) := by
 unfold mq qel
 cases ym x H with
 | none => rfl
 | some p =>
  obtain ⟨xsz,src⟩ := p
  simp only
  split
  ·unfold ni
   cases H.get β with
   | none => rfl
   | some b =>
    cases b with
    | row isnil sz es => cases isnil <;> simp
    | _ => rfl
  ·rfl
theorem z6s (te : TI) (sz : Nat) (es : List (List PV)) (x : AV) (H : Heap) (nx : Nat) : mq te (.pv (.sl true sz es)) x H nx =
  match ym x H with
  | none => q1r te (.pv (.sl true sz es)) x H nx
  | some (xsz,src) => if (xsz = te.size ∨ src = []) ∧ 0 < te.size then yf te (.pv (.sl true sz es)) src nx nx (nx + 1) else none := rfl
theorem z4m (te : TI) (x : AV) (H : Heap) (nx : Nat) : mq te .zsl x H nx =
  match ym x H with
  | none => q1r te .zsl x H nx
  | some (xsz,src) => if (xsz = te.size ∨ src = []) ∧ 0 < te.size then yf te .zsl src nx nx (nx + 1) else none := rfl
theorem qhn (te : TI) (β k nx : Nat) (e : α → List PV) (l : List α) (c : List PV) (src : List (List PV)) (hk : k = te.size) (hr : ql (l.length + (c :: src).length) te.bytes = true) :
  ni te β l.length l.length (c :: src) nx (some (.row l.isEmpty (szc k l) (List.map e l))) =
   some (.row β (List.map e l ++ c :: src).length 0 (List.map e l ++ c :: src).length,[(β,.row false k (List.map e l ++ c :: src))],nx) := by
 subst hk
 cases l with
 | nil =>
  have hr' : ql (src.length + 1) te.bytes = true := by simpa using hr
  simp [ni,yf,hr']
 | cons a l =>
  have hr' : ql (l.length + 1 + (src.length + 1)) te.bytes = true := by simpa using hr
  simp [ni,szc,hr']
theorem zlr {γ : Type} (te : TI) (β k nx : Nat) (e : α → List PV) (e' : γ → List PV) (l : List α) (s : List γ) (hs : (l.isEmpty && s.isEmpty) = false) (hk : k = te.size) (hr : ql (l.length + s.length) te.bytes = true) :
  ni te β l.length l.length (List.map e' s) nx (some (.row l.isEmpty (szc k l) (List.map e l))) =
   some (.row β (List.map e l ++ List.map e' s).length 0 (List.map e l ++ List.map e' s).length,[(β,.row false k (List.map e l ++ List.map e' s))],nx) := by
 subst hk
 cases l with
 | nil =>
  cases s with
  | nil => simp at hs
  | cons c s =>
   have hr' : ql (s.length + 1) te.bytes = true := by simpa using hr
   simp [ni,yf,hr']
 | cons a l =>
  have hr' : ql (l.length + 1 + s.length) te.bytes = true := by simpa using hr
  simp [ni,szc,hr']
theorem z2u {γ : Type} (te : TI) (β k nx : Nat) (e : α → List PV) (e' : γ → List PV) (l : List α) (s : List γ) (hs : (l.isEmpty && s.isEmpty) = true) :
  ni te β l.length l.length (List.map e' s) nx (some (.row l.isEmpty (szc k l) (List.map e l))) = some (.row β l.length 0 l.length,[],nx) := by
 cases l with
 | nil =>
  cases s with
  | nil => simp [ni,yf]
  | cons c s => simp at hs
 | cons a l => simp at hs
theorem qo6 {γ : Type} {l s : List γ} (h : (l.isEmpty && s.isEmpty) = false) : (l ++ s).isEmpty = false := by cases l <;> cases s <;> simp_all
theorem q8q {γ : Type} {l s : List γ} (h : (l.isEmpty && s.isEmpty) = false) (k : Nat) : szc k (l ++ s) = k := by cases l <;> cases s <;> simp_all [szc]
end
structure jv where
 es : List (Int × Int × Nat)
 clock : Nat
 deriving Inhabited
def q1g (e : Int × Int × Nat) : PV × PV × Nat := (.int .i64 e.1,.int .i64 e.2.1,e.2.2)
def xh (k : Int) : List (Int × Int × Nat) → Nat → Option (Nat × Int × Nat)
 | [],_ => none
 | (x,v,b) :: r,i => if k == x then some (i,v,b) else xh k r (i + 1)
def uj (m : jv) (k : Int) : Bool := (xh k m.es 0).isSome
def bq (m : jv) (k : Int) : Int := match xh k m.es 0 with | some (_,v,_) => v | none => 0
def ny (m : jv) (k v : Int) : jv := match xh k m.es 0 with | some (i,_,b) => ⟨m.es.set i (k,v,b),m.clock⟩ | none => ⟨m.es ++ [(k,v,m.clock)],m.clock + 1⟩
theorem qhu (k : Int) : ∀ (l : List (Int × Int × Nat)) (i : Nat),findKey (.int .i64 k) (List.map q1g l) i = some ((xh k l i).map fun x => (x.1,.int .i64 x.2.1,x.2.2))
 | [],i => rfl
 | (x,v,b) :: r,i => by
  simp only [List.map_cons,q1g,findKey,qat,xh,if_true]
  cases h : (k == x) with
  | true => simp
  | false => simp only [qhu k r (i + 1)]; simp
def qe4 (te : TI) (k : PV) (ok : Bool) : Option Blk → Option AV
 | some (.map es _) => match findKey k es 0 with
  | some (some (_,v,_)) => some (if ok then .tup [.pv v,.pv (.bool true)] else .pv v)
  | some none => some (if ok then .tup [.pv (q0a te),.pv (.bool false)] else .pv (q0a te))
  | none => none
 | _ => none
def qcz (β : Nat) (k v : PV) : Option Blk → Option (List (Nat × Blk))
 | some (.map es clock) => match findKey k es 0 with
  | some (some (i,_,born)) => some [(β,.map (es.set i (k,v,born)) clock)]
  | some none => some [(β,.map (es ++ [(k,v,clock)]) (clock + 1))]
  | none => none
 | _ => none
def z4h (te : TI) (β : Nat) (k : PV) : Option Blk → Option (AV × List (Nat × Blk))
 | some (.map es clock) => match findKey k es 0 with
  | some (some (i,v,born)) => some (.tup [.pv v,.pv (.int .i64 born)],[(β,.map (es.set i (k,v,born)) clock)])
  | some none => some (.tup [.pv (q0a te),.pv (.int .i64 clock)],[(β,.map (es ++ [(k,q0a te,clock)]) (clock + 1))])
  | none => none
 | _ => none
def za7 (β : Nat) (born : Int) (v : PV) : Option Blk → Option (List (Nat × Blk))
 | some (.map es clock) => match qbq born es 0 with
  | some (i,k,b) => some [(β,.map (es.set i (k,v,b)) clock)]
  | none => none
 | _ => none
def zji (β : Nat) (k : PV) : Option Blk → Option (List (Nat × Blk))
 | some (.map es clock) => match findKey k es 0 with
  | some (some (i,_,_)) => some [(β,.map (es.eraseIdx i) clock)]
  | some none => some [(β,.map es clock)]
  | none => none
 | _ => none
theorem qth (tk te : TI) (β : Nat) (k : PV) (ok : Bool) (H : Heap) : q5t tk te (.map β) (.pv k) ok H = if xx tk.td k = true then qe4 te k ok (H.get β) else none := by
 unfold q5t q66
 simp only
 split
 ·cases H.get β with
  | none => rfl
  | some b => cases b <;> rfl
 ·rfl
theorem z16 (tk : TI) (β : Nat) (k v : PV) (H : Heap) : q1k tk (.map β) (.pv k) v H = if xx tk.td k = true then qcz β k v (H.get β) else none := by
 unfold q1k
 simp only
 split
 ·cases H.get β with
  | none => rfl
  | some b => cases b <;> rfl
 ·rfl
theorem qrr (tk te : TI) (β : Nat) (k : PV) (H : Heap) : q2h tk te (.map β) (.pv k) H = if xx tk.td k = true then z4h te β k (H.get β) else none := by
 unfold q2h
 simp only
 split
 ·cases H.get β with
  | none => rfl
  | some b => cases b <;> rfl
 ·rfl
theorem z9y (β : Nat) (kd : IntKind) (born : Int) (v : PV) (H : Heap) : q12 (.map β) (.pv (.int kd born)) v H = za7 β born v (H.get β) := by
 unfold q12
 simp only
 cases H.get β with
 | none => rfl
 | some b => cases b <;> rfl
theorem qs2 (tk : TI) (β : Nat) (k : PV) (H : Heap) : q2c tk (.map β) (.pv k) H = if xx tk.td k = true then zji β k (H.get β) else none := by
 unfold q2c
 simp only
 split
 ·cases H.get β with
  | none => rfl
  | some b => cases b <;> rfl
 ·rfl
section
variable (b : Bool) (β : Nat) (m : jv) (k : Int)
theorem zes : qe4 ⟨1,8,.int .i64,[.int .i64 0],b⟩ (.int .i64 k) true (some (.map (List.map q1g m.es) m.clock)) = some (.tup [.pv (.int .i64 (bq m k)),.pv (.bool (uj m k))]) := by
 simp only [qe4,qhu,bq,uj]
 cases xh k m.es 0 <;> simp [q0a,TI.isAgg]
theorem z3e (v : Int) : qcz β (.int .i64 k) (.int .i64 v) (some (.map (List.map q1g m.es) m.clock)) = some [(β,.map (List.map q1g (ny m k v).es) (ny m k v).clock)] := by
 simp only [qcz,qhu,ny]
 cases xh k m.es 0 <;> simp [q1g,List.map_set]
end
theorem qp7 (k : Int) : ∀ (l : List (Int × Int × Nat)) (e : Int × Int × Nat) (i : Nat),xh k (l ++ [e]) i = match xh k l i with | some x => some x | none => if k == e.1 then some (i + l.length,e.2.1,e.2.2) else none
 | [],e,i => by simp [xh]
 | (x,v,b) :: r,e,i => by
  simp only [List.cons_append,xh]
  split
  ·rfl
  ·rw [qp7 k r e (i + 1)]
   simp only [List.length_cons]
   have : i + 1 + r.length = i + (r.length + 1) := by omega
   rw [this]
theorem qg8 (k k' : Int) (v : Int) : ∀ (l : List (Int × Int × Nat)) (i j : Nat) (w : Int) (b : Nat),xh k l i = some (i + j,w,b) →
  xh k' (l.set j (k,v,b)) i = if k' == k then some (i + j,v,b) else xh k' l i
 | [],i,j,w,b,h => by simp [xh] at h
 | (x,u,c) :: r,i,j,w,b,h => by
  simp only [xh] at h
  split at h
  ·rename_i hk
   simp only [Option.some.injEq,Prod.mk.injEq] at h
   obtain ⟨h1,rfl,rfl⟩ := h
   have : j = 0 := by omega
   subst this
   simp only [beq_iff_eq] at hk
   subst hk
   simp only [List.set_cons_zero,xh,Nat.add_zero]
   by_cases e : k' = k <;> simp [e]
  ·rename_i hk
   have hge : ∀ (l : List (Int × Int × Nat)) (n m : Nat) (w : Int) (b : Nat),xh k l n = some (m,w,b) → n ≤ m := by
    intro l
    induction l with
    | nil => intro n m w b h; simp [xh] at h
    | cons y r ih =>
     intro n m w b h
     simp only [xh] at h
     split at h
     ·cases h; exact Nat.le_refl _
     ·have := ih (n + 1) m w b h; omega
   have := hge r (i + 1) (i + j) w b h
   obtain ⟨j',rfl⟩ : ∃ j',j = j' + 1 := ⟨j - 1,by omega⟩
   have h' : xh k r (i + 1) = some (i + 1 + j',w,b) := by rw [h]; congr 2; omega
   have ih := qg8 k k' v r (i + 1) j' w b h'
   simp only [List.set_cons_succ,xh,ih]
   by_cases e1 : k' = x
   ·subst e1
    have : (k == k') = false := by simpa using hk
    have h2 : (k' == k) = false := by simp at this ⊢; exact fun h => this h.symm
    simp [h2]
   ·have : (k' == x) = false := by simpa using e1
    simp only [this,Bool.false_eq_true,if_false]
    have : i + 1 + j' = i + (j' + 1) := by omega
    rw [this]
theorem qiv (m : jv) (k v k' : Int) : xh k' (ny m k v).es 0 = if k' == k then some (((xh k (ny m k v).es 0).getD (0,0,0)).1,v,((xh k (ny m k v).es 0).getD (0,0,0)).2.2) else xh k' m.es 0 := by
 unfold ny
 cases h : xh k m.es 0 with
 | none =>
  simp only [qp7,h]
  by_cases e : k' = k
  ·subst e; simp [h]
  ·have : (k' == k) = false := by simpa using e
   simp only [this,Bool.false_eq_true,if_false]
   cases xh k' m.es 0 <;> rfl
 | some x =>
  obtain ⟨i,w,b⟩ := x
  have h' : xh k m.es 0 = some (0 + i,w,b) := by simpa using h
  simp only [qg8 k k' v m.es 0 i w b h',qg8 k k v m.es 0 i w b h']
  by_cases e : k' = k <;> simp [e]
theorem qjr (m : jv) (k v k' : Int) : bq (ny m k v) k' = if k' = k then v else bq m k' := by
 unfold bq
 rw [qiv]
 by_cases e : k' = k <;> simp [e]
theorem qmt (m : jv) (k v k' : Int) : uj (ny m k v) k' = if k' = k then true else uj m k' := by
 unfold uj
 rw [qiv]
 by_cases e : k' = k <;> simp [e]
theorem qtx (k : Int) : uj ⟨[],0⟩ k = false := rfl
theorem xw {α : Type} {l : List α} {n : Nat} (h : n < l.length) : qh l (n : Int) = some l[n] := by simp [qh,h]
theorem zc6 {α β : Type} (f : α → β) (a : α) (l : List α) : List.map f (a :: l) = f a :: List.map f l := rfl
theorem zop {α β : Type} (f : α → β) : List.map f ([] : List α) = [] := rfl
theorem qyb {α : Type} : ([] : List α).length = 0 := rfl
theorem zgq {α : Type} (a : α) (l : List α) : (a :: l).length = l.length + 1 := rfl
theorem zj4 {α : Type} (l : List α) (x : α) : (l.length < (l ++ [x]).length) = True := by simp
theorem z3u {α β : Type} (f : α → β) (l : List α) (x : β) : (l.length < (List.map f l ++ [x]).length) = True := by simp
theorem qln {α : Type} (l : List α) (i : Nat) (x : α) : (l.set i x).length = l.length := List.length_set
def zc9 := PLift.up (And.intro @zc6 (And.intro @zop (And.intro @qyb (And.intro @zgq (And.intro @zb (And.intro @qm6 (And.intro @qia (And.intro @qm2 (And.intro @qkb (And.intro @qni (And.intro @qk5 (And.intro @ql4 (And.intro @qln (And.intro @za @z8))))))))))))))
theorem ji {α : Type} {P : Program} {t : TypeId} {e : α → List PV} {ok : α → Prop} {n : Nat} (h : Reads P t e ok n) : Reads P t e (fun _ => True) n := h.map (fun x => x) (fun _ _ => ⟨trivial,rfl⟩)
theorem qr2 {α : Type} {P : Program} {t : TypeId} {fs : Array Field} {e : α → List PV} {ok : α → Prop} (ht : P.underlying t = some (.struct fs)) : Reads P t e ok 0 := by
 intro H enc w base spare held fuel cs x hn hx
 obtain ⟨_,m,rfl,_⟩ := DataW.trod_struct ht hx
 omega
def gy {α β : Type} (e1 : α → List PV) (e2 : β → List PV) (x : α × β) : List PV := e1 x.1 ++ e2 x.2
def uy {α : Type} (_ : α) : Prop := True
def bu (_ : Unit) : List PV := []
theorem xm {α β : Type} {P : Program} {f : Field} {fs : List Field} {e1 : α → List PV} {ok1 : α → Prop} {e2 : β → List PV} {n off c : Nat} (ho : f.offset = off) (hc : P.cellsOf f.type = c)
  (h1 : Reads P f.type e1 ok1 n) (h2 : q1b P fs e2 uy n (off + c)) : q1b P (f :: fs) (gy e1 e2) uy n off := by
 intro H enc w base spare held fuel cs a b d
 obtain ⟨x,m,_,h⟩ := q1b.cons ho hc h1 h2 H enc w base spare held fuel cs a b d
 exact ⟨x,m,trivial,h⟩
theorem q75 {P : Program} (n off : Nat) : q1b P [] bu uy n off := by
 intro H enc w base spare held fuel cs a b d
 obtain ⟨x,m,_,h⟩ := q1b.nil (P := P) n off H enc w base spare held fuel cs a b d
 exact ⟨x,m,trivial,h⟩
theorem q9x {α : Type} {P : Program} {t el : TypeId} {sz : Nat} {e : α → List PV} {ok : α → Prop} {n : Nat} (ht : P.underlying t = some (.slice el)) (hc : P.cellsOf t = 1) (hsz : P.cellsOf el = sz) (hpos : 0 < sz)
  (h : Reads P el e ok n) : Reads P t (slE sz e) (fun _ => True) n :=
 ((Reads.slice ht hc hsz hpos h).map (fun x => (⟨x.1 && x.2.isEmpty,x.2⟩ : Sl α)) (fun x _ => ⟨trivial,by simp [slE,slP,qjg,qlu]⟩)).mono (Nat.le_succ n)
def inI (n : Int) : Prop := -9223372036854775808 ≤ n ∧ n ≤ 9223372036854775807
def yj (s : Bytes) : Prop := s.length ≤ maxLen
def yx {α : Type} (ok : α → Prop) (s : Sl α) : Prop := (s.l.length ≤ maxLen ∧ (s.nil = true → s.l = [])) ∧ ∀ a ∈ s.l,ok a
theorem drop_cons {α : Type} {xs : List α} {i : Nat} {x : α} {r : List α} (h : xs.drop i = x :: r) : xs[i]? = some x ∧ xs.drop (i + 1) = r ∧ i < xs.length := by
 have h1 : xs[i]? = some x := by
  have := congrArg (fun l => l[0]?) h
  simpa using this
 have h2 : xs.drop (i + 1) = r := by
  have := congrArg (fun l => l.drop 1) h
  simpa [List.drop_drop] using this
 exact ⟨h1,h2,(List.getElem?_eq_some_iff.1 h1).1⟩
theorem nz {α : Type} {xs : List α} {i : Nat} (h : xs.drop i = []) : xs.length ≤ i := by simpa using h
theorem q9 {n : Int} (h1 : -9223372036854775808 ≤ n) (h2 : n ≤ 9223372036854775807) : IntKind.i64.wrap n = n := IntWalk.i64_in n ⟨h1,h2⟩
theorem q2y {n : Nat} (h : n < 9223372036854775807) : IntKind.i64.wrap ((n : Int) + 1) = ((n + 1 : Nat) : Int) := q9 (by omega) (by omega)
theorem zal (b : Bool) : AV.cells (.pv (.bool b)) = [(.pv (.bool b))] := rfl
theorem qya (k : IntKind) (n : Int) : AV.cells (.pv (.int k n)) = [(.pv (.int k n))] := rfl
theorem qqq (l : List UInt8) : AV.cells (.pv (.str l)) = [(.pv (.str l))] := rfl
theorem qtt (a : Bool) (b : Nat) (c : List (List PV)) : AV.cells (.pv (.sl a b c)) = [(.pv (.sl a b c))] := rfl
theorem z8l : AV.cells (.pv (.nilptr)) = [(.pv (.nilptr))] := rfl
theorem zef : AV.cells (.pv (.nilfn)) = [(.pv (.nilfn))] := rfl
theorem zmx : AV.cells (.pv (.nilmap)) = [(.pv (.nilmap))] := rfl
theorem zb8 : AV.cells (.pv (.nilif)) = [(.pv (.nilif))] := rfl
theorem qz3 (f : FuncId) : AV.cells (.pv (.fn f)) = [(.pv (.fn f))] := rfl
theorem qsm (c : List PV) : AV.cells (.pv (.rp c)) = [(.pv (.rp c))] := rfl
theorem zqi (c : List PV) : AV.cells (.pv (.agg c)) = c.map .pv := rfl
theorem zez (x y : Nat) : AV.cells (.ptr x y) = [(.ptr x y)] := rfl
theorem z6r (x y z u : Nat) : AV.cells (.eptr x y z u) = [(.eptr x y z u)] := rfl
theorem qy0 (c : List PV) (x : Nat) : AV.cells (.rptr c x) = [(.rptr c x)] := rfl
theorem z02 (x y z u : Nat) : AV.cells (.row x y z u) = [(.row x y z u)] := rfl
theorem zn6 : AV.cells (.zsl) = [(.zsl)] := rfl
theorem z7n (x : Nat) : AV.cells (.map x) = [(.map x)] := rfl
theorem zld (f : FuncId) (a b : List AV) : AV.cells (.clo f a b) = [(.clo f a b)] := rfl
theorem zoa (l : List AV) : AV.cells (.tup l) = [(.tup l)] := rfl
theorem qpz (c : List AV) : AV.cells (.agg c) = c := rfl
abbrev v_i (n : Int) : AV := .pv (.int .i64 n)
abbrev v_b (b : Bool) : AV := .pv (.bool b)
abbrev v_s (s : Bytes) : AV := .pv (.str s)
abbrev v_g (l : List PV) : AV := .pv (.agg l)
abbrev v_l {α : Type} (k : Nat) (e : α → List PV) (s : Sl α) : AV := .pv (.sl s.nil (szc k s.l) (List.map e s.l))
abbrev v_r {α : Type} (β : Nat) (l : List α) : AV := .row β l.length 0 l.length
abbrev b_x (l : List PV) : Blk := .box (List.map .pv l)
abbrev b_r {α : Type} (k : Nat) (e : α → List PV) (l : List α) : Blk := .row l.isEmpty (szc k l) (List.map e l)
abbrev b_m (m : jv) : Blk := .map (List.map q1g m.es) m.clock
theorem zeq (n : Int) : v_i n = .pv (.int .i64 n) := rfl
theorem zlq (b : Bool) : v_b b = .pv (.bool b) := rfl
theorem zna (s : Bytes) : v_s s = .pv (.str s) := rfl
theorem znx (l : List PV) : v_g l = .pv (.agg l) := rfl
theorem zb3 {α : Type} (k : Nat) (e : α → List PV) (s : Sl α) : v_l k e s = .pv (.sl s.nil (szc k s.l) (List.map e s.l)) := rfl
theorem znz {α : Type} (β : Nat) (l : List α) : v_r β l = .row β l.length 0 l.length := rfl
theorem qsw (l : List PV) : b_x l = .box (List.map .pv l) := rfl
theorem qxo {α : Type} (k : Nat) (e : α → List PV) (l : List α) : b_r k e l = .row l.isEmpty (szc k l) (List.map e l) := rfl
theorem z8t (m : jv) : b_m m = .map (List.map q1g m.es) m.clock := rfl
theorem zcj (b : UInt8) : qj b = [.int .u8 b.toNat] := rfl
theorem qr6 (n : Int) : qf n = [.int .i64 n] := rfl
theorem qqy (s : Bytes) : qg s = [.str s] := rfl
theorem qzw (b : Bool) : q5g b = [.bool b] := rfl
theorem z5r (k : IntKind) (n : Int) : kE k n = [.int k n] := rfl
theorem z6w {α : Type} (k : Nat) (e : α → List PV) (s : Sl α) : slE k e s = [.sl s.nil (szc k s.l) (List.map e s.l)] := rfl
theorem znb {α : Type} (e : α → List PV) (s : α × α) : qlg e s = e s.1 ++ e s.2 := rfl
def qzo := PLift.up (And.intro @zeq (And.intro @zlq (And.intro @zna (And.intro @znx (And.intro @zb3 (And.intro @znz (And.intro @qsw (And.intro @qxo (And.intro @z8t (And.intro @zcj (And.intro @qr6 (And.intro @qqy (And.intro @qzw (And.intro @z5r (And.intro @z6w @znb)))))))))))))))
section
variable {α β : Type} {r : β} {P : Prop}
theorem bs {o : Option α} {k : α → Option β} (f : ∀ x,o = some x → k x = some r → P) (h : o >>= k = some r) : P := by
 obtain ⟨x,h1,h2⟩ := Option.bind_eq_some_iff.1 h
 exact f x h1 h2
theorem it {b : Bool} {p q : Option β} (f : b = true → p = some r → P) (g : b = false → q = some r → P) (h : (if b = true then p else q) = some r) : P := by
 cases b
 ·exact g rfl h
 ·exact f rfl h
theorem gd {Q : Prop} [Decidable Q] {p : Option β} (f : Q → p = some r → P) (h : (if Q then p else none) = some r) : P := by
 split at h
 ·exact f ‹_› h
 ·cases h
variable {l : List α} {i lo hi : Int}
theorem bg {k : α → Option β} (e : α → List PV) (f : ∀ x,qh l i = some x → (∀ kd,zx (.pv (.int kd i)) = some i.toNat) → (List.map e l)[i.toNat]? = some (e x) → (∀ z,(szc z l = z) = True) → k x = some r → P) (h : qh l i >>= k = some r) : P :=
 bs (fun x hx => f x hx (qeg hx) (qgy e hx) (zdx hx)) h
theorem bw {k : α → Option β} (e : α → List PV) (f : ∀ x,qh l i = some x → (∀ kd,zx (.pv (.int kd i)) = some i.toNat) → (List.map e l)[i.toNat]? = some (e x) → (i.toNat < l.length) = True → k x = some r → P) (h : qh l i >>= k = some r) : P :=
 bs (fun x hx => f x hx (qeg hx) (qgy e hx) (qjh hx)) h
theorem bW {k : α → Option β} (e : α → List PV) (z : Nat) (f : ∀ x,qh l i = some x → (∀ kd,zx (.pv (.int kd i)) = some i.toNat) → (List.map e l)[i.toNat]? = some (e x) → (i.toNat < l.length) = True → l.isEmpty = false → szc z l = z → k x = some r → P) (h : qh l i >>= k = some r) : P :=
 bs (fun x hx => f x hx (qeg hx) (qgy e hx) (qjh hx) (qzx hx) (qk4 hx z)) h
theorem bc {k : α → Option β} (f : ∀ x,qh l i = some x → (∀ kd,zx (.pv (.int kd i)) = some i.toNat) → l[i.toNat]? = some x → k x = some r → P) (h : qh l i >>= k = some r) : P :=
 bs (fun x hx => f x hx (qeg hx) (qcd hx)) h
variable {k : List α → Option β}
theorem b2s (f : ∀ x,sub2 l lo hi = some x → (∀ kd,zx (.pv (.int kd lo)) = some lo.toNat) → (∀ kd,zx (.pv (.int kd hi)) = some hi.toNat) → (lo.toNat ≤ hi.toNat) = True → (hi.toNat ≤ l.length) = True → (l.take hi.toNat).drop lo.toNat = x → k x = some r → P) (h : sub2 l lo hi >>= k = some r) : P :=
 bs (fun x hx => f x hx (qj6 hx) (qmg hx) (ql6 hx) (qk6 hx) (qbu hx)) h
theorem b2 (e : α → List PV) (f : ∀ x,sub2 l lo hi = some x → (∀ kd,zx (.pv (.int kd lo)) = some lo.toNat) → (∀ kd,zx (.pv (.int kd hi)) = some hi.toNat) → (lo.toNat ≤ hi.toNat) = True → (hi.toNat ≤ l.length) = True → ((List.map e l).take hi.toNat).drop lo.toNat = List.map e x → (∀ z,szc (szc z l) x = szc z x) → k x = some r → P) (h : sub2 l lo hi >>= k = some r) : P :=
 bs (fun x hx => f x hx (qj6 hx) (qmg hx) (ql6 hx) (qk6 hx) (z8i e hx) (zgk hx)) h
theorem bFs (f : ∀ x,ku l lo = some x → (∀ kd,zx (.pv (.int kd lo)) = some lo.toNat) → (lo.toNat ≤ l.length) = True → l.drop lo.toNat = x → k x = some r → P) (h : ku l lo >>= k = some r) : P :=
 bs (fun x hx => f x hx (qmm hx) (qmz hx) (qf4 hx)) h
theorem bF (e : α → List PV) (f : ∀ x,ku l lo = some x → (∀ kd,zx (.pv (.int kd lo)) = some lo.toNat) → (lo.toNat ≤ l.length) = True → (List.map e l).drop lo.toNat = List.map e x → (∀ z,szc (szc z l) x = szc z x) → k x = some r → P) (h : ku l lo >>= k = some r) : P :=
 bs (fun x hx => f x hx (qmm hx) (qmz hx) (qur e hx) (za0 hx)) h
theorem bT (e : α → List PV) (f : ∀ x,gm l hi = some x → (∀ kd,zx (.pv (.int kd hi)) = some hi.toNat) → (hi.toNat ≤ l.length) = True → (List.map e l).take hi.toNat = List.map e x → (∀ z,szc (szc z l) x = szc z x) → k x = some r → P) (h : gm l hi >>= k = some r) : P :=
 bs (fun x hx => f x hx (za6 hx) (z3a hx) (z4i e hx) (z1b hx)) h
variable {s : List α}
theorem rG (k : Nat) (e : α → List PV) (l : List α) (te : TI) (β nx : Nat) (c : List PV) (hk : k = te.size) (hr : ql (l.length + 1) te.bytes = true) :
  ni te β l.length l.length [c] nx (some (.row l.isEmpty (szc k l) (List.map e l))) = some (.row β (List.map e l ++ [c]).length 0 (List.map e l ++ [c]).length,[(β,.row false k (List.map e l ++ [c]))],nx) := qhn te β k nx e l c [] hk hr
theorem rA (e : α → List PV) (hs : (l.isEmpty && s.isEmpty) = true) (te : TI) (β k nx : Nat) : ni te β l.length l.length (List.map e s) nx (some (.row l.isEmpty (szc k l) (List.map e l))) = some (.row β l.length 0 l.length,[],nx) := z2u te β k nx e e l s hs
theorem rB (e : α → List PV) (hs : (l.isEmpty && s.isEmpty) = false) (te : TI) (β k nx : Nat) (hk : k = te.size) (hr : ql (l.length + s.length) te.bytes = true) :
  ni te β l.length l.length (List.map e s) nx (some (.row l.isEmpty (szc k l) (List.map e l))) = some (.row β (List.map e l ++ List.map e s).length 0 (List.map e l ++ List.map e s).length,[(β,.row false k (List.map e l ++ List.map e s))],nx) := zlr te β k nx e e l s hs hk hr
end
section
variable (m : jv) (k v : Int) (b : Bool) (β : Nat)
theorem mG2 : qe4 ⟨1,8,.int .i64,[.int .i64 0],b⟩ (.int .i64 k) true (some (.map (List.map q1g m.es) m.clock)) = some (.tup [.pv (.int .i64 (bq m k)),.pv (.bool (uj m k))]) := zes b m k
theorem mP : qcz β (.int .i64 k) (.int .i64 v) (some (.map (List.map q1g m.es) m.clock)) = some [(β,.map (List.map q1g (ny m k v).es) (ny m k v).clock)] := z3e β m k v
end
theorem fF {G : GP} {f : FuncId} {S : Special} {nt : Nat} {ob : Option Code} {ra : Array ResultVar} (hfi : G.fn f = some ⟨nt,ra.toList,ob.get!⟩) {c : Code} {rs : List ResultVar} {H : Heap} {args : List AV} {r : Option (AV × Heap)}
  (hs : S.call f = none := by rfl) (hc : ob = some c := by rfl) (hr : ra = ⟨rs⟩ := by rfl) (hk : ky 0 H = true := by rfl)
  (h : qaf G f H.length rs (cont G (omega G S) f [.code c] (.normal,⟨q0c 0 args,H,H.length⟩)) = r := by
   simp (maxSteps := 2000000) (disch := first | assumption | rfl | exact qhc.mk (by kernel_rfl)) only [go_sem,↓reduceIte,Nat.reduceLeDiff,Nat.reduceEqDiff,Nat.reduceLT,Nat.reduceAdd,Nat.reduceSub,Nat.reduceMul,reduceCtorEq,Nat.reducePow, *]) :
  (omega G S).call f args H = r := zjz hs hfi hc hr hk h
theorem fL {G : GP} {f : FuncId} {S : Special} {fi : FI} (hfi : G.fn f = some fi) {id : Nat} {c : Code} {s : St} {r : Option (Ex × St)}
  (hc : zo fi.body id = some c := by rfl)
  (h : roundEnd G (omega G S) f id s.nx (cont G (omega G S) f [.code c] (.normal,s)) = r := by
   simp (maxSteps := 2000000) (disch := first | assumption | rfl | exact qhc.mk (by kernel_rfl)) only [go_sem,↓reduceIte,Nat.reduceLeDiff,Nat.reduceEqDiff,Nat.reduceLT,Nat.reduceAdd,Nat.reduceSub,Nat.reduceMul,reduceCtorEq,Nat.reducePow, *]) :
  (omega G S).loop f id s = r := zhc hfi hc h
def refsOf (H : Heap) : List Nat → List Nat
 | [] => []
 | β :: r => (yu H β).refs ++ refsOf H r
theorem qk3 (H : Heap) : ∀ d : List Nat,(d.flatMap fun β => (yu H β).refs) = refsOf H d
 | [] => rfl
 | β :: r => by rw [List.flatMap_cons,qk3 H r]; rfl
theorem qyr (H : Heap) (d roots : List Nat) : q13 H d roots = match roots,d with
 | [],[] => some ([],[])
 | roots,d => let L := reach H 400 (roots ++ refsOf H d) d
  if q3e roots L && closedIn H L L then some (L,pick H (pos L) 0 L) else none := by
 cases roots <;> cases d <;> first | rfl | simp only [q13,qk3]
theorem zkc (H : Heap) : je .ptr (.pv .nilptr) H = some true := rfl
theorem qsx (H : Heap) (β o : Nat) : je .ptr (.ptr β o) H = some false := rfl
theorem qu5 (H : Heap) (c : List PV) (o : Nat) : je .ptr (.rptr c o) H = some false := rfl
theorem zma (H : Heap) (β ver i o : Nat) : je .ptr (.eptr β ver i o) H = some false := rfl
theorem zfg (H : Heap) (c : List PV) : je .ptr (.pv (.rp c)) H = some false := rfl
theorem zbx (H : Heap) (e : TypeId) (b : Bool) (sz : Nat) (es : List (List PV)) : je (.slice e) (.pv (.sl b sz es)) H = some b := rfl
theorem zf9 (H : Heap) (e : TypeId) : je (.slice e) .zsl H = some false := rfl
theorem zjb (H : Heap) (e : TypeId) (β ver off n : Nat) : je (.slice e) (.row β ver off n) H = match H.get β with | some (.row b _ es) => if ver = es.length then some b else none | _ => none := rfl
theorem zj6 (H : Heap) (k e : TypeId) : je (.map k e) (.pv .nilmap) H = some true := rfl
theorem zhb (H : Heap) (k e : TypeId) (β : Nat) : je (.map k e) (.map β) H = some false := rfl
theorem quc (H : Heap) : je .func (.pv .nilfn) H = some true := rfl
theorem qqb (H : Heap) (f : FuncId) : je .func (.pv (.fn f)) H = some false := rfl
theorem z0v (H : Heap) (f : FuncId) (a b : List AV) : je .func (.clo f a b) H = some false := rfl
theorem take_set {α β : Type} (e : α → β) (l : List α) (i : Nat) (x : α) : (List.map e (l.set i x)).take l.length = List.map e (l.set i x) := by
 have h : (l.set i x).length = l.length := List.length_set
 rw [← List.map_take,← h,List.take_length]
end Go.Gm
namespace Go.Gm
open Go
end Go.Gm
