/-
  The machine, part d.
-/
import Derived.Test.YtkbgphcebakcnaaGreatFac
set_option linter.unusedSimpArgs false
set_option linter.unusedVariables false
namespace Go.Gm
open Go
abbrev Bytes := List UInt8
structure Sl (α : Type) where
 nil : Bool
 l : List α
 deriving Inhabited,DecidableEq
def q0s (s : Bytes) : List PV := [.str s]
def qw (n : Int) : List PV := [.int .i64 n]
def kE (k : IntKind) (n : Int) : List PV := [.int k n]
def qb3 (b : Bool) : List PV := [.bool b]
def q7r (b : UInt8) : List PV := [.int .u8 b.toNat]
def slE {α : Type} (k : Nat) (e : α → List PV) (s : Sl α) : List PV := [.sl s.nil (szc k s.l) (List.map e s.l)]
def x8 {α : Type} (e : α → List PV) (s : α × α) : List PV := e s.1 ++ e s.2
abbrev Dum : Prop := ∀ x : Bool,(x && true) = x
def qc {α : Type} (l : List α) (i : Int) : Option α := if 0 ≤ i then l[i.toNat]? else none
def xz {α : Type} (l : List α) (lo hi : Int) : Option (List α) := if (0 ≤ lo ∧ 0 ≤ hi) ∧ (lo.toNat ≤ hi.toNat ∧ hi.toNat ≤ l.length) then some ((l.take hi.toNat).drop lo.toNat) else none
def ji {α : Type} (l : List α) (lo : Int) : Option (List α) := if 0 ≤ lo ∧ lo.toNat ≤ l.length then some (l.drop lo.toNat) else none
def jg {α : Type} (l : List α) (hi : Int) : Option (List α) := if 0 ≤ hi ∧ hi.toNat ≤ l.length then some (l.take hi.toNat) else none
def u8 (n : Int) : UInt8 := UInt8.ofNat n.toNat
section
variable {α : Type} {l : List α} {i lo hi : Int} {x : α} {r : List α}
theorem q7l (h : qc l i = some x) (k : IntKind) : ze (.pv (.int k i)) = some i.toNat := by
 unfold qc at h; split at h
 ·rename_i h0; simp [ze,h0]
 ·cases h
theorem qfz {α : Type} (enc : α → List PV) (X D : List α) : (List.take D.length (List.map enc X)).length = (X.take D.length).length := by simp
theorem qgt {α : Type} (enc : α → List PV) (X D : List α) : List.take D.length (List.map enc X) ++ List.drop (X.take D.length).length (List.map enc D) = List.map enc (X.take D.length ++ D.drop (X.take D.length).length) := by simp [List.map_take,List.map_drop]
theorem qtx {α : Type} (X D : List α) : (X.take D.length ++ D.drop (X.take D.length).length).length = D.length := by simp; omega
theorem qry (k : IntKind) {n : Int} (h : 0 ≤ n) : ze (.pv (.int k n)) = some n.toNat := by simp [ze,h]
theorem q6r (h : qc l i = some x) : l[i.toNat]? = some x := by
 unfold qc at h; split at h
 ·exact h
 ·cases h
theorem q91 {β : Type} (e : α → β) (h : qc l i = some x) : (List.map e l)[i.toNat]? = some (e x) := by simp [q6r h]
theorem z6e (h : qc l i = some x) : l.isEmpty = false := by
 have := q6r h; cases l <;> simp_all
theorem qam (h : qc l i = some x) (k : Nat) : szc k l = k := by
 have := q6r h; cases l <;> simp_all [szc]
theorem qgl (h : qc l i = some x) (k : Nat) : (szc k l = k) = True := by simp [qam h]
theorem qap (h : qc l i = some x) : (i.toNat < l.length) = True := by
 have := q6r h; simp only [eq_iff_iff,iff_true]; exact (List.getElem?_eq_some_iff.1 this).1
theorem qnr (h : xz l lo hi = some r) (k : IntKind) : ze (.pv (.int k lo)) = some lo.toNat := by
 unfold xz at h; split at h
 ·rename_i h0; simp [ze,h0.1.1]
 ·cases h
theorem qrt (h : xz l lo hi = some r) (k : IntKind) : ze (.pv (.int k hi)) = some hi.toNat := by
 unfold xz at h; split at h
 ·rename_i h0; simp [ze,h0.1.2]
 ·cases h
theorem z8l (h : xz l lo hi = some r) : (lo.toNat ≤ hi.toNat) = True := by
 unfold xz at h; split at h
 ·rename_i h0; simp [h0.2.1]
 ·cases h
theorem qou (h : xz l lo hi = some r) : (hi.toNat ≤ l.length) = True := by
 unfold xz at h; split at h
 ·rename_i h0; simp [h0.2.2]
 ·cases h
theorem qeb (h : xz l lo hi = some r) : (l.take hi.toNat).drop lo.toNat = r := by
 unfold xz at h; split at h <;> simp_all
theorem qwn (h : ji l lo = some r) (k : IntKind) : ze (.pv (.int k lo)) = some lo.toNat := by
 unfold ji at h; split at h
 ·rename_i h0; simp [ze,h0.1]
 ·cases h
theorem qo3 (h : ji l lo = some r) : (lo.toNat ≤ l.length) = True := by
 unfold ji at h; split at h
 ·rename_i h0; simp [h0.2]
 ·cases h
theorem qnw (h : ji l lo = some r) : l.drop lo.toNat = r := by
 unfold ji at h; split at h <;> simp_all
theorem zbi (h : jg l hi = some r) (k : IntKind) : ze (.pv (.int k hi)) = some hi.toNat := by
 unfold jg at h; split at h
 ·rename_i h0; simp [ze,h0.1]
 ·cases h
theorem qlp (h : jg l hi = some r) : (hi.toNat ≤ l.length) = True := by
 unfold jg at h; split at h
 ·rename_i h0; simp [h0.2]
 ·cases h
theorem qxy (h : jg l hi = some r) : l.take hi.toNat = r := by
 unfold jg at h; split at h <;> simp_all
theorem qkr {β : Type} (e : α → β) (h : xz l lo hi = some r) : ((List.map e l).take hi.toNat).drop lo.toNat = List.map e r := by rw [← List.map_take,← List.map_drop,qeb h]
theorem z2h (h : xz l lo hi = some r) (k : Nat) : szc (szc k l) r = szc k r := by
 have := qeb h
 cases r with
 | nil => rfl
 | cons => cases l <;> simp_all [szc]
theorem qcl {β : Type} (k : Nat) (e : α → β) (l : List α) : szc k (List.map e l) = szc k l := by cases l <;> rfl
theorem z4o (k : Nat) (l : List α) : szc (szc k l) l = szc k l := by cases l <;> rfl
theorem yn (k : Nat) : szc k ([] : List α) = 0 := rfl
theorem qdf (k : Nat) (x : α) (l : List α) : szc k (x :: l) = k := rfl
theorem qca (k : Nat) (l : List α) (x : α) (r : List α) : szc k (l ++ x :: r) = k := by cases l <;> rfl
theorem qc7 (k : Nat) (l : List α) (i : Nat) (x : α) : szc k (l.set i x) = szc k l := by cases l <;> cases i <;> rfl
theorem qex {β : Type} (e : α → β) (l : List α) : (List.map e l).isEmpty = l.isEmpty := by cases l <;> rfl
theorem qc8 (l : List α) (x : α) (r : List α) : (l ++ x :: r).isEmpty = false := by cases l <;> rfl
theorem qd2 (l : List α) (i : Nat) (x : α) : (l.set i x).isEmpty = l.isEmpty := by cases l <;> cases i <;> rfl
theorem qct (x : α) (l : List α) : (x :: l).isEmpty = false := rfl
theorem qau : ([] : List α).isEmpty = true := rfl
theorem q70 {β : Type} (k : Nat) (e : α → β) (l : List α) : (szc k l = k ∨ List.map e l = []) = True := by cases l <;> simp [szc]
theorem take_len {β : Type} (e : α → β) (l : List α) : (List.map e l).take l.length = List.map e l := by rw [← List.map_take,List.take_length]
theorem map_set {β : Type} (e : α → β) (l : List α) (i : Nat) (x : α) : (List.map e l).set i (e x) = List.map e (l.set i x) := by simp [List.map_set]
theorem qf7 (s : Bytes) : List.map (fun b => [PV.int .u8 (b.toNat : Int)]) s = List.map q7r s := rfl
theorem uf (b : UInt8) : u8 (b.toNat : Int) = b := by simp [u8]
theorem yg (n : Int) : ((u8 (IntKind.u8.wrap n)).toNat : Int) = IntKind.u8.wrap n := by
 have h : 0 ≤ IntKind.u8.wrap n ∧ IntKind.u8.wrap n < 256 := by
  simp only [IntKind.wrap,IntKind.bits,IntKind.signed]
  constructor
  ·simp; omega
  ·simp; omega
 simp only [u8,UInt8.toNat_ofNat']
 omega
theorem qxw : List.range 1 = [0] := rfl
theorem qyo : List.range 2 = [0,1] := rfl
theorem qys : List.range 3 = [0,1,2] := rfl
theorem qvq : List.range 4 = [0,1,2,3] := rfl
theorem qz0 : List.range 5 = [0,1,2,3,4] := rfl
theorem qit : List.range 6 = [0,1,2,3,4,5] := rfl
def q0i (te : TI) (β L n : Nat) (src : List (List PV)) (nx : Nat) : Option Blk → Option Eff
 | some (.row true _ es) => if L = es.length ∧ n = 0 then xy te (.row β L 0 n) src β nx nx else none
 | some (.row false sz es) =>
  if L = es.length ∧ sz = te.size ∧ qx (n + src.length) te.bytes = true then
   if n = es.length then some (.row β (es ++ src).length 0 (es ++ src).length,[(β,.row false te.size (es ++ src))],nx)
   else some (.row β (es.take n ++ src ++ es.drop (n + src.length)).length 0 (n + src.length),[(β,.row false te.size (es.take n ++ src ++ es.drop (n + src.length)))],nx)
  else none
 | _ => none
theorem z9w (te : TI) (β L n nx sz : Nat) (es src : List (List PV)) : q0i te β L n src nx (some (.row false sz es)) =
  if L = es.length ∧ sz = te.size ∧ qx (n + src.length) te.bytes = true then
   if n = es.length then some (.row β (es ++ src).length 0 (es ++ src).length,[(β,.row false te.size (es ++ src))],nx)
   else some (.row β (es.take n ++ src ++ es.drop (n + src.length)).length 0 (n + src.length),[(β,.row false te.size (es.take n ++ src ++ es.drop (n + src.length)))],nx)
  else none := rfl
theorem qf2 (te : TI) (β L n nx sz : Nat) (es src : List (List PV)) : q0i te β L n src nx (some (.row true sz es)) = if L = es.length ∧ n = 0 then xy te (.row β L 0 n) src β nx nx else none := rfl
def q68 (te : TI) (β L n : Nat) (H : Heap) (nx : Nat) (d : Option Eff) : Option (Nat × List (List PV)) → Option Eff
 | none => d
 | some (xsz,src) => if (xsz = te.size ∨ src = []) ∧ 0 < te.size then q0i te β L n src nx (H.get β) else none
theorem qwh (te : TI) (β L n : Nat) (x : AV) (H : Heap) (nx : Nat) : jd te (.row β L 0 n) x H nx = q68 te β L n H nx (wz te (.row β L 0 n) x H nx) (xh x H) := by
 unfold jd q68
 cases xh x H with
 | none => rfl
 | some p =>
  obtain ⟨xsz,src⟩ := p
  simp only
  split
  ·unfold q0i
   cases H.get β with
   | none => rfl
   | some b =>
    cases b with
    | row isnil sz es => cases isnil <;> simp
    | _ => rfl
  ·rfl
theorem qmz (te : TI) (sz : Nat) (es : List (List PV)) (x : AV) (H : Heap) (nx : Nat) : jd te (.pv (.sl true sz es)) x H nx =
  match xh x H with
  | none => wz te (.pv (.sl true sz es)) x H nx
  | some (xsz,src) => if (xsz = te.size ∨ src = []) ∧ 0 < te.size then xy te (.pv (.sl true sz es)) src nx nx (nx + 1) else none := rfl
theorem z5b (te : TI) (x : AV) (H : Heap) (nx : Nat) : jd te .zsl x H nx =
  match xh x H with
  | none => wz te .zsl x H nx
  | some (xsz,src) => if (xsz = te.size ∨ src = []) ∧ 0 < te.size then xy te .zsl src nx nx (nx + 1) else none := rfl
theorem z2t (te : TI) (β k nx : Nat) (e : α → List PV) (l : List α) (c : List PV) (src : List (List PV)) (hk : k = te.size) (hr : qx (l.length + (c :: src).length) te.bytes = true) :
  q0i te β l.length l.length (c :: src) nx (some (.row l.isEmpty (szc k l) (List.map e l))) =
   some (.row β (List.map e l ++ c :: src).length 0 (List.map e l ++ c :: src).length,[(β,.row false k (List.map e l ++ c :: src))],nx) := by
 subst hk
 cases l with
 | nil =>
  have hr' : qx (src.length + 1) te.bytes = true := by simpa using hr
  simp [q0i,xy,hr']
 | cons a l =>
  have hr' : qx (l.length + 1 + (src.length + 1)) te.bytes = true := by simpa using hr
  simp [q0i,szc,hr']
end
structure q6l where
 es : List (Int × Int × Nat)
 clock : Nat
 deriving Inhabited
def qd8 (e : Int × Int × Nat) : PV × PV × Nat := (.int .i64 e.1,.int .i64 e.2.1,e.2.2)
def zds (te : TI) (k : PV) (ok : Bool) : Option Blk → Option AV
 | some (.map es _) => match findKey k es 0 with
  | some (some (_,v,_)) => some (if ok then .tup [.pv v,.pv (.bool true)] else .pv v)
  | some none => some (if ok then .tup [.pv (kg te),.pv (.bool false)] else .pv (kg te))
  | none => none
 | _ => none
def z1b (β : Nat) (k v : PV) : Option Blk → Option (List (Nat × Blk))
 | some (.map es clock) => match findKey k es 0 with
  | some (some (i,_,born)) => some [(β,.map (es.set i (k,v,born)) clock)]
  | some none => some [(β,.map (es ++ [(k,v,clock)]) (clock + 1))]
  | none => none
 | _ => none
def qsi (te : TI) (β : Nat) (k : PV) : Option Blk → Option (AV × List (Nat × Blk))
 | some (.map es clock) => match findKey k es 0 with
  | some (some (i,v,born)) => some (.tup [.pv v,.pv (.int .i64 born)],[(β,.map (es.set i (k,v,born)) clock)])
  | some none => some (.tup [.pv (kg te),.pv (.int .i64 clock)],[(β,.map (es ++ [(k,kg te,clock)]) (clock + 1))])
  | none => none
 | _ => none
def qzw (β : Nat) (born : Int) (v : PV) : Option Blk → Option (List (Nat × Blk))
 | some (.map es clock) => match q4n born es 0 with
  | some (i,k,b) => some [(β,.map (es.set i (k,v,b)) clock)]
  | none => none
 | _ => none
def qmv (β : Nat) (k : PV) : Option Blk → Option (List (Nat × Blk))
 | some (.map es clock) => match findKey k es 0 with
  | some (some (i,_,_)) => some [(β,.map (es.eraseIdx i) clock)]
  | some none => some [(β,.map es clock)]
  | none => none
 | _ => none
theorem qyc (tk te : TI) (β : Nat) (k : PV) (ok : Bool) (H : Heap) : q0m tk te (.map β) (.pv k) ok H = if zb tk.td k = true then zds te k ok (H.get β) else none := by
 unfold q0m q17
 simp only
 split
 ·cases H.get β with
  | none => rfl
  | some b => cases b <;> rfl
 ·rfl
theorem qkv (tk : TI) (β : Nat) (k v : PV) (H : Heap) : yo tk (.map β) (.pv k) v H = if zb tk.td k = true then z1b β k v (H.get β) else none := by
 unfold yo
 simp only
 split
 ·cases H.get β with
  | none => rfl
  | some b => cases b <;> rfl
 ·rfl
theorem qkq (tk te : TI) (β : Nat) (k : PV) (H : Heap) : uw tk te (.map β) (.pv k) H = if zb tk.td k = true then qsi te β k (H.get β) else none := by
 unfold uw
 simp only
 split
 ·cases H.get β with
  | none => rfl
  | some b => cases b <;> rfl
 ·rfl
theorem zd1 (β : Nat) (kd : IntKind) (born : Int) (v : PV) (H : Heap) : yl (.map β) (.pv (.int kd born)) v H = qzw β born v (H.get β) := by
 unfold yl
 simp only
 cases H.get β with
 | none => rfl
 | some b => cases b <;> rfl
theorem z5g (tk : TI) (β : Nat) (k : PV) (H : Heap) : uk tk (.map β) (.pv k) H = if zb tk.td k = true then qmv β k (H.get β) else none := by
 unfold uk
 simp only
 split
 ·cases H.get β with
  | none => rfl
  | some b => cases b <;> rfl
 ·rfl
section
variable (b : Bool) (β : Nat) (m : q6l) (k : Int)
end
theorem qun {α β : Type} (f : α → β) (a : α) (l : List α) : List.map f (a :: l) = f a :: List.map f l := rfl
theorem qoz {α β : Type} (f : α → β) : List.map f ([] : List α) = [] := rfl
theorem qyb {α : Type} : ([] : List α).length = 0 := rfl
theorem qvl {α : Type} (a : α) (l : List α) : (a :: l).length = l.length + 1 := rfl
theorem qmb {α : Type} (l : List α) (x : α) : (l.length < (l ++ [x]).length) = True := by simp
theorem qis {α β : Type} (f : α → β) (l : List α) (x : β) : (l.length < (List.map f l ++ [x]).length) = True := by simp
theorem qd6 {α : Type} (l : List α) (i : Nat) (x : α) : (l.set i x).length = l.length := List.length_set
def z9g := PLift.up (And.intro @qun (And.intro @qoz (And.intro @qyb (And.intro @qvl (And.intro @yn (And.intro @qdf (And.intro @qca (And.intro @qc7 (And.intro @qau (And.intro @qct (And.intro @qc8 (And.intro @qd2 (And.intro @qd6 (And.intro @uf @yg))))))))))))))
theorem q33 {α : Type} {P : Program} {t : TypeId} {e : α → List PV} {ok : α → Prop} {n : Nat} (h : Reads P t e ok n) : Reads P t e (fun _ => True) n := h.map (fun x => x) (fun _ _ => ⟨trivial,rfl⟩)
def q1q {α β : Type} (e1 : α → List PV) (e2 : β → List PV) (x : α × β) : List PV := e1 x.1 ++ e2 x.2
def ko {α : Type} (_ : α) : Prop := True
def q1s (_ : Unit) : List PV := []
theorem q2j {α β : Type} {P : Program} {f : Field} {fs : List Field} {e1 : α → List PV} {ok1 : α → Prop} {e2 : β → List PV} {n off c : Nat} (ho : f.offset = off) (hc : P.cellsOf f.type = c)
  (h1 : Reads P f.type e1 ok1 n) (h2 : uh P fs e2 ko n (off + c)) : uh P (f :: fs) (q1q e1 e2) ko n off := by
 intro H enc w base spare held fuel cs a b d
 obtain ⟨x,m,_,h⟩ := uh.cons ho hc h1 h2 H enc w base spare held fuel cs a b d
 exact ⟨x,m,trivial,h⟩
theorem q8r {P : Program} (n off : Nat) : uh P [] q1s ko n off := by
 intro H enc w base spare held fuel cs a b d
 obtain ⟨x,m,_,h⟩ := uh.nil (P := P) n off H enc w base spare held fuel cs a b d
 exact ⟨x,m,trivial,h⟩
theorem qa7 {α : Type} {P : Program} {t el : TypeId} {sz : Nat} {e : α → List PV} {ok : α → Prop} {n : Nat} (ht : P.underlying t = some (.slice el)) (hc : P.cellsOf t = 1) (hsz : P.cellsOf el = sz) (hpos : 0 < sz)
  (h : Reads P el e ok n) : Reads P t (slE sz e) (fun _ => True) n :=
 ((Reads.slice ht hc hsz hpos h).map (fun x => (⟨x.1 && x.2.isEmpty,x.2⟩ : Sl α)) (fun x _ => ⟨trivial,by simp [slE,slP,qex,qcl]⟩)).mono (Nat.le_succ n)
def inI (n : Int) : Prop := -9223372036854775808 ≤ n ∧ n ≤ 9223372036854775807
def gq (s : Bytes) : Prop := s.length ≤ maxLen
def j4 {α : Type} (ok : α → Prop) (s : Sl α) : Prop := (s.l.length ≤ maxLen ∧ (s.nil = true → s.l = [])) ∧ ∀ a ∈ s.l,ok a
theorem zk {n : Int} (h1 : -9223372036854775808 ≤ n) (h2 : n ≤ 9223372036854775807) : IntKind.i64.wrap n = n := IntWalk.i64_in n ⟨h1,h2⟩
theorem qkw (b : Bool) : AV.cells (.pv (.bool b)) = [(.pv (.bool b))] := rfl
theorem z3z (k : IntKind) (n : Int) : AV.cells (.pv (.int k n)) = [(.pv (.int k n))] := rfl
theorem zd7 (l : List UInt8) : AV.cells (.pv (.str l)) = [(.pv (.str l))] := rfl
theorem z1q (a : Bool) (b : Nat) (c : List (List PV)) : AV.cells (.pv (.sl a b c)) = [(.pv (.sl a b c))] := rfl
theorem zbm : AV.cells (.pv (.nilptr)) = [(.pv (.nilptr))] := rfl
theorem qgh : AV.cells (.pv (.nilfn)) = [(.pv (.nilfn))] := rfl
theorem qtg : AV.cells (.pv (.nilmap)) = [(.pv (.nilmap))] := rfl
theorem zcj : AV.cells (.pv (.nilif)) = [(.pv (.nilif))] := rfl
theorem qj3 (f : FuncId) : AV.cells (.pv (.fn f)) = [(.pv (.fn f))] := rfl
theorem z4a (c : List PV) : AV.cells (.pv (.rp c)) = [(.pv (.rp c))] := rfl
theorem qp8 (c : List PV) : AV.cells (.pv (.agg c)) = c.map .pv := rfl
theorem z4b (x y : Nat) : AV.cells (.ptr x y) = [(.ptr x y)] := rfl
theorem z2s (x y z u : Nat) : AV.cells (.eptr x y z u) = [(.eptr x y z u)] := rfl
theorem z5n (c : List PV) (x : Nat) : AV.cells (.rptr c x) = [(.rptr c x)] := rfl
theorem qiv (x y z u : Nat) : AV.cells (.row x y z u) = [(.row x y z u)] := rfl
theorem ql4 : AV.cells (.zsl) = [(.zsl)] := rfl
theorem qzx (x : Nat) : AV.cells (.map x) = [(.map x)] := rfl
theorem ze4 (f : FuncId) (a b : List AV) : AV.cells (.clo f a b) = [(.clo f a b)] := rfl
theorem z7s (l : List AV) : AV.cells (.tup l) = [(.tup l)] := rfl
theorem z8d (c : List AV) : AV.cells (.agg c) = c := rfl
abbrev v_i (n : Int) : AV := .pv (.int .i64 n)
abbrev v_b (b : Bool) : AV := .pv (.bool b)
abbrev v_s (s : Bytes) : AV := .pv (.str s)
abbrev v_g (l : List PV) : AV := .pv (.agg l)
abbrev v_l {α : Type} (k : Nat) (e : α → List PV) (s : Sl α) : AV := .pv (.sl s.nil (szc k s.l) (List.map e s.l))
abbrev v_r {α : Type} (β : Nat) (l : List α) : AV := .row β l.length 0 l.length
abbrev b_x (l : List PV) : Blk := .box (List.map .pv l)
abbrev b_r {α : Type} (k : Nat) (e : α → List PV) (l : List α) : Blk := .row l.isEmpty (szc k l) (List.map e l)
abbrev b_m (m : q6l) : Blk := .map (List.map qd8 m.es) m.clock
theorem z2a (n : Int) : v_i n = .pv (.int .i64 n) := rfl
theorem qja (b : Bool) : v_b b = .pv (.bool b) := rfl
theorem qk2 (s : Bytes) : v_s s = .pv (.str s) := rfl
theorem zeu (l : List PV) : v_g l = .pv (.agg l) := rfl
theorem qpb {α : Type} (k : Nat) (e : α → List PV) (s : Sl α) : v_l k e s = .pv (.sl s.nil (szc k s.l) (List.map e s.l)) := rfl
theorem zeh {α : Type} (β : Nat) (l : List α) : v_r β l = .row β l.length 0 l.length := rfl
theorem qq2 (l : List PV) : b_x l = .box (List.map .pv l) := rfl
theorem z9f {α : Type} (k : Nat) (e : α → List PV) (l : List α) : b_r k e l = .row l.isEmpty (szc k l) (List.map e l) := rfl
theorem z3l (m : q6l) : b_m m = .map (List.map qd8 m.es) m.clock := rfl
theorem qw8 (b : UInt8) : q7r b = [.int .u8 b.toNat] := rfl
theorem z5a (n : Int) : qw n = [.int .i64 n] := rfl
theorem qtb (s : Bytes) : q0s s = [.str s] := rfl
theorem qq7 (b : Bool) : qb3 b = [.bool b] := rfl
theorem qoe (k : IntKind) (n : Int) : kE k n = [.int k n] := rfl
theorem z8k {α : Type} (k : Nat) (e : α → List PV) (s : Sl α) : slE k e s = [.sl s.nil (szc k s.l) (List.map e s.l)] := rfl
theorem zaq {α : Type} (e : α → List PV) (s : α × α) : x8 e s = e s.1 ++ e s.2 := rfl
def z1i := PLift.up (And.intro @z2a (And.intro @qja (And.intro @qk2 (And.intro @zeu (And.intro @qpb (And.intro @zeh (And.intro @qq2 (And.intro @z9f (And.intro @z3l (And.intro @qw8 (And.intro @z5a (And.intro @qtb (And.intro @qq7 (And.intro @qoe (And.intro @z8k @zaq)))))))))))))))
section
variable {α β : Type} {r : β} {P : Prop}
theorem bs {o : Option α} {k : α → Option β} (f : ∀ x,o = some x → k x = some r → P) (h : o >>= k = some r) : P := by
 obtain ⟨x,h1,h2⟩ := Option.bind_eq_some_iff.1 h
 exact f x h1 h2
theorem it {b : Bool} {p q : Option β} (f : b = true → p = some r → P) (g : b = false → q = some r → P) (h : (if b = true then p else q) = some r) : P := by
 cases b
 ·exact g rfl h
 ·exact f rfl h
theorem gd {Q : Prop} [Decidable Q] {p : Option β} (f : Q → p = some r → P) (h : (if Q then p else none) = some r) : P := by
 split at h
 ·exact f ‹_› h
 ·cases h
variable {l : List α} {i lo hi : Int}
theorem bg {k : α → Option β} (e : α → List PV) (f : ∀ x,qc l i = some x → (∀ kd,ze (.pv (.int kd i)) = some i.toNat) → (List.map e l)[i.toNat]? = some (e x) → (∀ z,(szc z l = z) = True) → k x = some r → P) (h : qc l i >>= k = some r) : P :=
 bs (fun x hx => f x hx (q7l hx) (q91 e hx) (qgl hx)) h
theorem bw {k : α → Option β} (e : α → List PV) (f : ∀ x,qc l i = some x → (∀ kd,ze (.pv (.int kd i)) = some i.toNat) → (List.map e l)[i.toNat]? = some (e x) → (i.toNat < l.length) = True → k x = some r → P) (h : qc l i >>= k = some r) : P :=
 bs (fun x hx => f x hx (q7l hx) (q91 e hx) (qap hx)) h
theorem bW {k : α → Option β} (e : α → List PV) (z : Nat) (f : ∀ x,qc l i = some x → (∀ kd,ze (.pv (.int kd i)) = some i.toNat) → (List.map e l)[i.toNat]? = some (e x) → (i.toNat < l.length) = True → l.isEmpty = false → szc z l = z → k x = some r → P) (h : qc l i >>= k = some r) : P :=
 bs (fun x hx => f x hx (q7l hx) (q91 e hx) (qap hx) (z6e hx) (qam hx z)) h
variable {k : List α → Option β}
theorem b2 (e : α → List PV) (f : ∀ x,xz l lo hi = some x → (∀ kd,ze (.pv (.int kd lo)) = some lo.toNat) → (∀ kd,ze (.pv (.int kd hi)) = some hi.toNat) → (lo.toNat ≤ hi.toNat) = True → (hi.toNat ≤ l.length) = True → ((List.map e l).take hi.toNat).drop lo.toNat = List.map e x → (∀ z,szc (szc z l) x = szc z x) → k x = some r → P) (h : xz l lo hi >>= k = some r) : P :=
 bs (fun x hx => f x hx (qnr hx) (qrt hx) (z8l hx) (qou hx) (qkr e hx) (z2h hx)) h
theorem bFs (f : ∀ x,ji l lo = some x → (∀ kd,ze (.pv (.int kd lo)) = some lo.toNat) → (lo.toNat ≤ l.length) = True → l.drop lo.toNat = x → k x = some r → P) (h : ji l lo >>= k = some r) : P :=
 bs (fun x hx => f x hx (qwn hx) (qo3 hx) (qnw hx)) h
theorem bTs (f : ∀ x,jg l hi = some x → (∀ kd,ze (.pv (.int kd hi)) = some hi.toNat) → (hi.toNat ≤ l.length) = True → l.take hi.toNat = x → k x = some r → P) (h : jg l hi >>= k = some r) : P :=
 bs (fun x hx => f x hx (zbi hx) (qlp hx) (qxy hx)) h
variable {s : List α}
theorem rG (k : Nat) (e : α → List PV) (l : List α) (te : TI) (β nx : Nat) (c : List PV) (hk : k = te.size) (hr : qx (l.length + 1) te.bytes = true) :
  q0i te β l.length l.length [c] nx (some (.row l.isEmpty (szc k l) (List.map e l))) = some (.row β (List.map e l ++ [c]).length 0 (List.map e l ++ [c]).length,[(β,.row false k (List.map e l ++ [c]))],nx) := z2t te β k nx e l c [] hk hr
end
section
variable (m : q6l) (k v : Int) (b : Bool) (β : Nat)
end
theorem fF {G : GP} {f : FuncId} {S : Special} {nt : Nat} {ob : Option Code} {ra : Array ResultVar} (hfi : G.fn f = some ⟨nt,ra.toList,ob.get!⟩) {c : Code} {rs : List ResultVar} {H : Heap} {args : List AV} {r : Option (AV × Heap)}
  (hs : S.call f = none := by rfl) (hc : ob = some c := by rfl) (hr : ra = ⟨rs⟩ := by rfl) (hk : zw 0 H = true := by rfl)
  (h : q53 G f H.length rs (cont G (omega G S) f [.code c] (.normal,⟨jm 0 args,H,H.length⟩)) = r := by
   simp (maxSteps := 2000000) (disch := first | assumption | rfl | exact q8c.mk (by kernel_rfl)) only [go_sem,↓reduceIte,Nat.reduceLeDiff,Nat.reduceEqDiff,Nat.reduceLT,Nat.reduceAdd,Nat.reduceSub,Nat.reduceMul,reduceCtorEq,Nat.reducePow, *]) :
  (omega G S).call f args H = r := zbf hs hfi hc hr hk h
theorem fL {G : GP} {f : FuncId} {S : Special} {fi : FI} (hfi : G.fn f = some fi) {id : Nat} {c : Code} {s : St} {r : Option (Ex × St)}
  (hc : qp fi.body id = some c := by rfl)
  (h : roundEnd G (omega G S) f id s.nx (cont G (omega G S) f [.code c] (.normal,s)) = r := by
   simp (maxSteps := 2000000) (disch := first | assumption | rfl | exact q8c.mk (by kernel_rfl)) only [go_sem,↓reduceIte,Nat.reduceLeDiff,Nat.reduceEqDiff,Nat.reduceLT,Nat.reduceAdd,Nat.reduceSub,Nat.reduceMul,reduceCtorEq,Nat.reducePow, *]) :
  (omega G S).loop f id s = r := z6o hfi hc h
def refsOf (H : Heap) : List Nat → List Nat
 | [] => []
 | β :: r => (xq H β).refs ++ refsOf H r
theorem qaj (H : Heap) : ∀ d : List Nat,(d.flatMap fun β => (xq H β).refs) = refsOf H d
 | [] => rfl
 | β :: r => by rw [List.flatMap_cons,qaj H r]; rfl
theorem z1e (H : Heap) (d roots : List Nat) : yz H d roots = match roots,d with
 | [],[] => some ([],[])
 | roots,d => let L := reach H 400 (roots ++ refsOf H d) d
  if nz roots L && closedIn H L L then some (L,pick H (pos L) 0 L) else none := by
 cases roots <;> cases d <;> first | rfl | simp only [yz,qaj]
theorem z9m (H : Heap) : zq .ptr (.pv .nilptr) H = some true := rfl
theorem zdw (H : Heap) (β o : Nat) : zq .ptr (.ptr β o) H = some false := rfl
theorem zeb (H : Heap) (c : List PV) (o : Nat) : zq .ptr (.rptr c o) H = some false := rfl
theorem qz5 (H : Heap) (β ver i o : Nat) : zq .ptr (.eptr β ver i o) H = some false := rfl
theorem qnx (H : Heap) (c : List PV) : zq .ptr (.pv (.rp c)) H = some false := rfl
theorem z1w (H : Heap) (e : TypeId) (b : Bool) (sz : Nat) (es : List (List PV)) : zq (.slice e) (.pv (.sl b sz es)) H = some b := rfl
theorem qve (H : Heap) (e : TypeId) : zq (.slice e) .zsl H = some false := rfl
theorem qxn (H : Heap) (e : TypeId) (β ver off n : Nat) : zq (.slice e) (.row β ver off n) H = match H.get β with | some (.row b _ es) => if ver = es.length then some b else none | _ => none := rfl
theorem zfn (H : Heap) (k e : TypeId) : zq (.map k e) (.pv .nilmap) H = some true := rfl
theorem zcg (H : Heap) (k e : TypeId) (β : Nat) : zq (.map k e) (.map β) H = some false := rfl
theorem qg8 (H : Heap) : zq .func (.pv .nilfn) H = some true := rfl
theorem zb1 (H : Heap) (f : FuncId) : zq .func (.pv (.fn f)) H = some false := rfl
theorem z8a (H : Heap) (f : FuncId) (a b : List AV) : zq .func (.clo f a b) H = some false := rfl
theorem take_set {α β : Type} (e : α → β) (l : List α) (i : Nat) (x : α) : (List.map e (l.set i x)).take l.length = List.map e (l.set i x) := by
 have h : (l.set i x).length = l.length := List.length_set
 rw [← List.map_take,← h,List.take_length]
end Go.Gm
namespace Go.Gm
open Go
end Go.Gm
