/-
  The machine, part d.
-/
import Derived.Test.YtllckneefjgafaaGreatDoorVac
set_option linter.unusedSimpArgs false
set_option linter.unusedVariables false
namespace Go.Gm
open Go
abbrev Bytes := List UInt8
structure Sl (α : Type) where
 nil : Bool
 l : List α
 deriving Inhabited,DecidableEq
def xx (s : Bytes) : List PV := [.str s]
def yo (n : Int) : List PV := [.int .i64 n]
def kE (k : IntKind) (n : Int) : List PV := [.int k n]
def q51 (b : Bool) : List PV := [.bool b]
def q7w (b : UInt8) : List PV := [.int .u8 b.toNat]
def slE {α : Type} (k : Nat) (e : α → List PV) (s : Sl α) : List PV := [.sl s.nil (szc k s.l) (List.map e s.l)]
def q8w {α : Type} (e : α → List PV) (s : α × α) : List PV := e s.1 ++ e s.2
abbrev Dum : Prop := ∀ x : Bool,(x && true) = x
def ze {α : Type} (l : List α) (i : Int) : Option α := if 0 ≤ i then l[i.toNat]? else none
def ji {α : Type} (l : List α) (lo hi : Int) : Option (List α) := if (0 ≤ lo ∧ 0 ≤ hi) ∧ (lo.toNat ≤ hi.toNat ∧ hi.toNat ≤ l.length) then some ((l.take hi.toNat).drop lo.toNat) else none
def u8 (n : Int) : UInt8 := UInt8.ofNat n.toNat
section
variable {α : Type} {l : List α} {i lo hi : Int} {x : α} {r : List α}
theorem q4x (h : ze l i = some x) (k : IntKind) : zy (.pv (.int k i)) = some i.toNat := by
 unfold ze at h; split at h
 ·rename_i h0; simp [zy,h0]
 ·cases h
theorem q45 (h : ze l i = some x) : l[i.toNat]? = some x := by
 unfold ze at h; split at h
 ·exact h
 ·cases h
theorem q63 {β : Type} (e : α → β) (h : ze l i = some x) : (List.map e l)[i.toNat]? = some (e x) := by simp [q45 h]
theorem qij (h : ze l i = some x) : l.isEmpty = false := by
 have := q45 h; cases l <;> simp_all
theorem qci (h : ze l i = some x) (k : Nat) : szc k l = k := by
 have := q45 h; cases l <;> simp_all [szc]
theorem qgu (h : ze l i = some x) (k : Nat) : (szc k l = k) = True := by simp [qci h]
theorem q99 (h : ze l i = some x) : (i.toNat < l.length) = True := by
 have := q45 h; simp only [eq_iff_iff,iff_true]; exact (List.getElem?_eq_some_iff.1 this).1
theorem znl (h : ji l lo hi = some r) (k : IntKind) : zy (.pv (.int k lo)) = some lo.toNat := by
 unfold ji at h; split at h
 ·rename_i h0; simp [zy,h0.1.1]
 ·cases h
theorem z5q (h : ji l lo hi = some r) (k : IntKind) : zy (.pv (.int k hi)) = some hi.toNat := by
 unfold ji at h; split at h
 ·rename_i h0; simp [zy,h0.1.2]
 ·cases h
theorem qv9 (h : ji l lo hi = some r) : (lo.toNat ≤ hi.toNat) = True := by
 unfold ji at h; split at h
 ·rename_i h0; simp [h0.2.1]
 ·cases h
theorem qwh (h : ji l lo hi = some r) : (hi.toNat ≤ l.length) = True := by
 unfold ji at h; split at h
 ·rename_i h0; simp [h0.2.2]
 ·cases h
theorem q9t (h : ji l lo hi = some r) : (l.take hi.toNat).drop lo.toNat = r := by
 unfold ji at h; split at h <;> simp_all
theorem z7b {β : Type} (e : α → β) (h : ji l lo hi = some r) : ((List.map e l).take hi.toNat).drop lo.toNat = List.map e r := by rw [← List.map_take,← List.map_drop,q9t h]
theorem z0o (h : ji l lo hi = some r) (k : Nat) : szc (szc k l) r = szc k r := by
 have := q9t h
 cases r with
 | nil => rfl
 | cons => cases l <;> simp_all [szc]
theorem q9z {β : Type} (k : Nat) (e : α → β) (l : List α) : szc k (List.map e l) = szc k l := by cases l <;> rfl
theorem zqm (k : Nat) (l : List α) : szc (szc k l) l = szc k l := by cases l <;> rfl
theorem q4s (k : Nat) : szc k ([] : List α) = 0 := rfl
theorem qbi (k : Nat) (x : α) (l : List α) : szc k (x :: l) = k := rfl
theorem q9s (k : Nat) (l : List α) (x : α) (r : List α) : szc k (l ++ x :: r) = k := by cases l <;> rfl
theorem q8d (k : Nat) (l : List α) (i : Nat) (x : α) : szc k (l.set i x) = szc k l := by cases l <;> cases i <;> rfl
theorem qb7 {β : Type} (e : α → β) (l : List α) : (List.map e l).isEmpty = l.isEmpty := by cases l <;> rfl
theorem q94 (l : List α) (x : α) (r : List α) : (l ++ x :: r).isEmpty = false := by cases l <;> rfl
theorem qcg (l : List α) (i : Nat) (x : α) : (l.set i x).isEmpty = l.isEmpty := by cases l <;> cases i <;> rfl
theorem qav (x : α) (l : List α) : (x :: l).isEmpty = false := rfl
theorem qaj : ([] : List α).isEmpty = true := rfl
theorem qcc {β : Type} (k : Nat) (e : α → β) (l : List α) : (szc k l = k ∨ List.map e l = []) = True := by cases l <;> simp [szc]
theorem take_len {β : Type} (e : α → β) (l : List α) : (List.map e l).take l.length = List.map e l := by rw [← List.map_take,List.take_length]
theorem map_set {β : Type} (e : α → β) (l : List α) (i : Nat) (x : α) : (List.map e l).set i (e x) = List.map e (l.set i x) := by simp [List.map_set]
theorem ql3 (s : Bytes) : List.map (fun b => [PV.int .u8 (b.toNat : Int)]) s = List.map q7w s := rfl
theorem q4l (b : UInt8) : u8 (b.toNat : Int) = b := by simp [u8]
theorem q4n (n : Int) : ((u8 (IntKind.u8.wrap n)).toNat : Int) = IntKind.u8.wrap n := by
 have h : 0 ≤ IntKind.u8.wrap n ∧ IntKind.u8.wrap n < 256 := by
  simp only [IntKind.wrap,IntKind.bits,IntKind.signed]
  constructor
  ·simp; omega
  ·simp; omega
 simp only [u8,UInt8.toNat_ofNat']
 omega
theorem zth : List.range 1 = [0] := rfl
theorem qg1 : List.range 2 = [0,1] := rfl
theorem qo0 : List.range 3 = [0,1,2] := rfl
theorem zsz : List.range 4 = [0,1,2,3] := rfl
theorem qv8 : List.range 5 = [0,1,2,3,4] := rfl
theorem qjj : List.range 6 = [0,1,2,3,4,5] := rfl
def q4t (te : TI) (β L n : Nat) (src : List (List PV)) (nx : Nat) : Option Blk → Option Eff
 | some (.row true _ es) => if L = es.length ∧ n = 0 then jr te (.row β L 0 n) src β nx nx else none
 | some (.row false sz es) =>
  if L = es.length ∧ sz = te.size ∧ j5 (n + src.length) te.bytes = true then
   if n = es.length then some (.row β (es ++ src).length 0 (es ++ src).length,[(β,.row false te.size (es ++ src))],nx)
   else some (.row β (es.take n ++ src ++ es.drop (n + src.length)).length 0 (n + src.length),[(β,.row false te.size (es.take n ++ src ++ es.drop (n + src.length)))],nx)
  else none
 | _ => none
theorem qqs (te : TI) (β L n nx sz : Nat) (es src : List (List PV)) : q4t te β L n src nx (some (.row false sz es)) =
  if L = es.length ∧ sz = te.size ∧ j5 (n + src.length) te.bytes = true then
   if n = es.length then some (.row β (es ++ src).length 0 (es ++ src).length,[(β,.row false te.size (es ++ src))],nx)
   else some (.row β (es.take n ++ src ++ es.drop (n + src.length)).length 0 (n + src.length),[(β,.row false te.size (es.take n ++ src ++ es.drop (n + src.length)))],nx)
  else none := rfl
theorem zgh (te : TI) (β L n nx sz : Nat) (es src : List (List PV)) : q4t te β L n src nx (some (.row true sz es)) = if L = es.length ∧ n = 0 then jr te (.row β L 0 n) src β nx nx else none := rfl
def q5f (te : TI) (β L n : Nat) (H : Heap) (nx : Nat) (d : Option Eff) : Option (Nat × List (List PV)) → Option Eff
 | none => d
 | some (xsz,src) => if (xsz = te.size ∨ src = []) ∧ 0 < te.size then q4t te β L n src nx (H.get β) else none
theorem qhu (te : TI) (β L n : Nat) (x : AV) (H : Heap) (nx : Nat) : jk te (.row β L 0 n) x H nx = q5f te β L n H nx (gq te (.row β L 0 n) x H nx) (j3 x H) := by
 unfold jk q5f
 cases j3 x H with
 | none => rfl
 | some p =>
  obtain ⟨xsz,src⟩ := p
  simp only
  split
  ·unfold q4t
   cases H.get β with
   | none => rfl
   | some b =>
    cases b with
    | row isnil sz es => cases isnil <;> simp
    | _ => rfl
  ·rfl
theorem z8m (te : TI) (sz : Nat) (es : List (List PV)) (x : AV) (H : Heap) (nx : Nat) : jk te (.pv (.sl true sz es)) x H nx =
  match j3 x H with
  | none => gq te (.pv (.sl true sz es)) x H nx
  | some (xsz,src) => if (xsz = te.size ∨ src = []) ∧ 0 < te.size then jr te (.pv (.sl true sz es)) src nx nx (nx + 1) else none := rfl
theorem qwb (te : TI) (x : AV) (H : Heap) (nx : Nat) : jk te .zsl x H nx =
  match j3 x H with
  | none => gq te .zsl x H nx
  | some (xsz,src) => if (xsz = te.size ∨ src = []) ∧ 0 < te.size then jr te .zsl src nx nx (nx + 1) else none := rfl
end
structure q4k where
 es : List (Int × Int × Nat)
 clock : Nat
 deriving Inhabited
def q9g (e : Int × Int × Nat) : PV × PV × Nat := (.int .i64 e.1,.int .i64 e.2.1,e.2.2)
def zca (te : TI) (k : PV) (ok : Bool) : Option Blk → Option AV
 | some (.map es _) => match findKey k es 0 with
  | some (some (_,v,_)) => some (if ok then .tup [.pv v,.pv (.bool true)] else .pv v)
  | some none => some (if ok then .tup [.pv (kv te),.pv (.bool false)] else .pv (kv te))
  | none => none
 | _ => none
def qy8 (β : Nat) (k v : PV) : Option Blk → Option (List (Nat × Blk))
 | some (.map es clock) => match findKey k es 0 with
  | some (some (i,_,born)) => some [(β,.map (es.set i (k,v,born)) clock)]
  | some none => some [(β,.map (es ++ [(k,v,clock)]) (clock + 1))]
  | none => none
 | _ => none
def z1q (te : TI) (β : Nat) (k : PV) : Option Blk → Option (AV × List (Nat × Blk))
 | some (.map es clock) => match findKey k es 0 with
  | some (some (i,v,born)) => some (.tup [.pv v,.pv (.int .i64 born)],[(β,.map (es.set i (k,v,born)) clock)])
  | some none => some (.tup [.pv (kv te),.pv (.int .i64 clock)],[(β,.map (es ++ [(k,kv te,clock)]) (clock + 1))])
  | none => none
 | _ => none
def qj4 (β : Nat) (born : Int) (v : PV) : Option Blk → Option (List (Nat × Blk))
 | some (.map es clock) => match q4d born es 0 with
  | some (i,k,b) => some [(β,.map (es.set i (k,v,b)) clock)]
  | none => none
 | _ => none
def qyk (β : Nat) (k : PV) : Option Blk → Option (List (Nat × Blk))
 | some (.map es clock) => match findKey k es 0 with
  | some (some (i,_,_)) => some [(β,.map (es.eraseIdx i) clock)]
  | some none => some [(β,.map es clock)]
  | none => none
 | _ => none
theorem qxe (tk te : TI) (β : Nat) (k : PV) (ok : Bool) (H : Heap) : q0v tk te (.map β) (.pv k) ok H = if zf tk.td k = true then zca te k ok (H.get β) else none := by
 unfold q0v q1n
 simp only
 split
 ·cases H.get β with
  | none => rfl
  | some b => cases b <;> rfl
 ·rfl
theorem qvt (tk : TI) (β : Nat) (k v : PV) (H : Heap) : gu tk (.map β) (.pv k) v H = if zf tk.td k = true then qy8 β k v (H.get β) else none := by
 unfold gu
 simp only
 split
 ·cases H.get β with
  | none => rfl
  | some b => cases b <;> rfl
 ·rfl
theorem qer (tk te : TI) (β : Nat) (k : PV) (H : Heap) : mg tk te (.map β) (.pv k) H = if zf tk.td k = true then z1q te β k (H.get β) else none := by
 unfold mg
 simp only
 split
 ·cases H.get β with
  | none => rfl
  | some b => cases b <;> rfl
 ·rfl
theorem qk1 (β : Nat) (kd : IntKind) (born : Int) (v : PV) (H : Heap) : ug (.map β) (.pv (.int kd born)) v H = qj4 β born v (H.get β) := by
 unfold ug
 simp only
 cases H.get β with
 | none => rfl
 | some b => cases b <;> rfl
theorem zpt (tk : TI) (β : Nat) (k : PV) (H : Heap) : ng tk (.map β) (.pv k) H = if zf tk.td k = true then qyk β k (H.get β) else none := by
 unfold ng
 simp only
 split
 ·cases H.get β with
  | none => rfl
  | some b => cases b <;> rfl
 ·rfl
section
variable (b : Bool) (β : Nat) (m : q4k) (k : Int)
end
theorem qc9 {α : Type} {l : List α} {n : Nat} (h : n < l.length) : ze l (n : Int) = some l[n] := by simp [ze,h]
theorem qxa {α β : Type} (f : α → β) (a : α) (l : List α) : List.map f (a :: l) = f a :: List.map f l := rfl
theorem zj8 {α β : Type} (f : α → β) : List.map f ([] : List α) = [] := rfl
theorem zf1 {α : Type} : ([] : List α).length = 0 := rfl
theorem zdq {α : Type} (a : α) (l : List α) : (a :: l).length = l.length + 1 := rfl
theorem ql7 {α : Type} (l : List α) (x : α) : (l.length < (l ++ [x]).length) = True := by simp
theorem zla {α β : Type} (f : α → β) (l : List α) (x : β) : (l.length < (List.map f l ++ [x]).length) = True := by simp
theorem qcn {α : Type} (l : List α) (i : Nat) (x : α) : (l.set i x).length = l.length := List.length_set
def qxb := PLift.up (And.intro @qxa (And.intro @zj8 (And.intro @zf1 (And.intro @zdq (And.intro @q4s (And.intro @qbi (And.intro @q9s (And.intro @q8d (And.intro @qaj (And.intro @qav (And.intro @q94 (And.intro @qcg (And.intro @qcn (And.intro @q4l @q4n))))))))))))))
theorem gy {α : Type} {P : Program} {t : TypeId} {e : α → List PV} {ok : α → Prop} {n : Nat} (h : Reads P t e ok n) : Reads P t e (fun _ => True) n := h.map (fun x => x) (fun _ _ => ⟨trivial,rfl⟩)
def q0f {α β : Type} (e1 : α → List PV) (e2 : β → List PV) (x : α × β) : List PV := e1 x.1 ++ e2 x.2
def xh {α : Type} (_ : α) : Prop := True
def q07 (_ : Unit) : List PV := []
theorem yc {α β : Type} {P : Program} {f : Field} {fs : List Field} {e1 : α → List PV} {ok1 : α → Prop} {e2 : β → List PV} {n off c : Nat} (ho : f.offset = off) (hc : P.cellsOf f.type = c)
  (h1 : Reads P f.type e1 ok1 n) (h2 : uk P fs e2 xh n (off + c)) : uk P (f :: fs) (q0f e1 e2) xh n off := by
 intro H enc w base spare held fuel cs a b d
 obtain ⟨x,m,_,h⟩ := uk.cons ho hc h1 h2 H enc w base spare held fuel cs a b d
 exact ⟨x,m,trivial,h⟩
theorem q4y {P : Program} (n off : Nat) : uk P [] q07 xh n off := by
 intro H enc w base spare held fuel cs a b d
 obtain ⟨x,m,_,h⟩ := uk.nil (P := P) n off H enc w base spare held fuel cs a b d
 exact ⟨x,m,trivial,h⟩
theorem q8g {α : Type} {P : Program} {t el : TypeId} {sz : Nat} {e : α → List PV} {ok : α → Prop} {n : Nat} (ht : P.underlying t = some (.slice el)) (hc : P.cellsOf t = 1) (hsz : P.cellsOf el = sz) (hpos : 0 < sz)
  (h : Reads P el e ok n) : Reads P t (slE sz e) (fun _ => True) n :=
 ((Reads.slice ht hc hsz hpos h).map (fun x => (⟨x.1 && x.2.isEmpty,x.2⟩ : Sl α)) (fun x _ => ⟨trivial,by simp [slE,slP,qb7,q9z]⟩)).mono (Nat.le_succ n)
def inI (n : Int) : Prop := -9223372036854775808 ≤ n ∧ n ≤ 9223372036854775807
def xn (s : Bytes) : Prop := s.length ≤ maxLen
def zx {α : Type} (ok : α → Prop) (s : Sl α) : Prop := (s.l.length ≤ maxLen ∧ (s.nil = true → s.l = [])) ∧ ∀ a ∈ s.l,ok a
def inU (n : Int) : Prop := 0 ≤ n ∧ n ≤ 4294967295
theorem qz7 {n : Int} (h1 : -9223372036854775808 ≤ n) (h2 : n ≤ 9223372036854775807) : IntKind.i64.wrap n = n := IntWalk.i64_in n ⟨h1,h2⟩
theorem qr1 {n : Nat} (h : n < 9223372036854775807) : IntKind.i64.wrap ((n : Int) + 1) = ((n + 1 : Nat) : Int) := qz7 (by omega) (by omega)
theorem qx4 (b : Bool) : AV.cells (.pv (.bool b)) = [(.pv (.bool b))] := rfl
theorem qfr (k : IntKind) (n : Int) : AV.cells (.pv (.int k n)) = [(.pv (.int k n))] := rfl
theorem z1d (l : List UInt8) : AV.cells (.pv (.str l)) = [(.pv (.str l))] := rfl
theorem z94 (a : Bool) (b : Nat) (c : List (List PV)) : AV.cells (.pv (.sl a b c)) = [(.pv (.sl a b c))] := rfl
theorem qmk : AV.cells (.pv (.nilptr)) = [(.pv (.nilptr))] := rfl
theorem zkv : AV.cells (.pv (.nilfn)) = [(.pv (.nilfn))] := rfl
theorem z5x : AV.cells (.pv (.nilmap)) = [(.pv (.nilmap))] := rfl
theorem z1p : AV.cells (.pv (.nilif)) = [(.pv (.nilif))] := rfl
theorem zfw (f : FuncId) : AV.cells (.pv (.fn f)) = [(.pv (.fn f))] := rfl
theorem z7g (c : List PV) : AV.cells (.pv (.rp c)) = [(.pv (.rp c))] := rfl
theorem qo7 (c : List PV) : AV.cells (.pv (.agg c)) = c.map .pv := rfl
theorem qz9 (x y : Nat) : AV.cells (.ptr x y) = [(.ptr x y)] := rfl
theorem z6v (x y z u : Nat) : AV.cells (.eptr x y z u) = [(.eptr x y z u)] := rfl
theorem qrt (c : List PV) (x : Nat) : AV.cells (.rptr c x) = [(.rptr c x)] := rfl
theorem qyu (x y z u : Nat) : AV.cells (.row x y z u) = [(.row x y z u)] := rfl
theorem z0u : AV.cells (.zsl) = [(.zsl)] := rfl
theorem zd9 (x : Nat) : AV.cells (.map x) = [(.map x)] := rfl
theorem zgn (f : FuncId) (a b : List AV) : AV.cells (.clo f a b) = [(.clo f a b)] := rfl
theorem zi9 (l : List AV) : AV.cells (.tup l) = [(.tup l)] := rfl
theorem zqw (c : List AV) : AV.cells (.agg c) = c := rfl
abbrev v_i (n : Int) : AV := .pv (.int .i64 n)
abbrev v_b (b : Bool) : AV := .pv (.bool b)
abbrev v_s (s : Bytes) : AV := .pv (.str s)
abbrev v_g (l : List PV) : AV := .pv (.agg l)
abbrev v_l {α : Type} (k : Nat) (e : α → List PV) (s : Sl α) : AV := .pv (.sl s.nil (szc k s.l) (List.map e s.l))
abbrev v_r {α : Type} (β : Nat) (l : List α) : AV := .row β l.length 0 l.length
abbrev b_x (l : List PV) : Blk := .box (List.map .pv l)
abbrev b_r {α : Type} (k : Nat) (e : α → List PV) (l : List α) : Blk := .row l.isEmpty (szc k l) (List.map e l)
abbrev b_m (m : q4k) : Blk := .map (List.map q9g m.es) m.clock
theorem z2r (n : Int) : v_i n = .pv (.int .i64 n) := rfl
theorem qnn (b : Bool) : v_b b = .pv (.bool b) := rfl
theorem qmx (s : Bytes) : v_s s = .pv (.str s) := rfl
theorem qws (l : List PV) : v_g l = .pv (.agg l) := rfl
theorem zn4 {α : Type} (k : Nat) (e : α → List PV) (s : Sl α) : v_l k e s = .pv (.sl s.nil (szc k s.l) (List.map e s.l)) := rfl
theorem zfp {α : Type} (β : Nat) (l : List α) : v_r β l = .row β l.length 0 l.length := rfl
theorem zn0 (l : List PV) : b_x l = .box (List.map .pv l) := rfl
theorem zjo {α : Type} (k : Nat) (e : α → List PV) (l : List α) : b_r k e l = .row l.isEmpty (szc k l) (List.map e l) := rfl
theorem zg8 (m : q4k) : b_m m = .map (List.map q9g m.es) m.clock := rfl
theorem qja (b : UInt8) : q7w b = [.int .u8 b.toNat] := rfl
theorem zdy (n : Int) : yo n = [.int .i64 n] := rfl
theorem zj0 (s : Bytes) : xx s = [.str s] := rfl
theorem znw (b : Bool) : q51 b = [.bool b] := rfl
theorem zrx (k : IntKind) (n : Int) : kE k n = [.int k n] := rfl
theorem zmn {α : Type} (k : Nat) (e : α → List PV) (s : Sl α) : slE k e s = [.sl s.nil (szc k s.l) (List.map e s.l)] := rfl
theorem zaj {α : Type} (e : α → List PV) (s : α × α) : q8w e s = e s.1 ++ e s.2 := rfl
def qii := PLift.up (And.intro @z2r (And.intro @qnn (And.intro @qmx (And.intro @qws (And.intro @zn4 (And.intro @zfp (And.intro @zn0 (And.intro @zjo (And.intro @zg8 (And.intro @qja (And.intro @zdy (And.intro @zj0 (And.intro @znw (And.intro @zrx (And.intro @zmn @zaj)))))))))))))))
section
variable {α β : Type} {r : β} {P : Prop}
theorem bs {o : Option α} {k : α → Option β} (f : ∀ x,o = some x → k x = some r → P) (h : o >>= k = some r) : P := by
 obtain ⟨x,h1,h2⟩ := Option.bind_eq_some_iff.1 h
 exact f x h1 h2
theorem it {b : Bool} {p q : Option β} (f : b = true → p = some r → P) (g : b = false → q = some r → P) (h : (if b = true then p else q) = some r) : P := by
 cases b
 ·exact g rfl h
 ·exact f rfl h
theorem gd {Q : Prop} [Decidable Q] {p : Option β} (f : Q → p = some r → P) (h : (if Q then p else none) = some r) : P := by
 split at h
 ·exact f ‹_› h
 ·cases h
variable {l : List α} {i lo hi : Int}
theorem bg {k : α → Option β} (e : α → List PV) (f : ∀ x,ze l i = some x → (∀ kd,zy (.pv (.int kd i)) = some i.toNat) → (List.map e l)[i.toNat]? = some (e x) → (∀ z,(szc z l = z) = True) → k x = some r → P) (h : ze l i >>= k = some r) : P :=
 bs (fun x hx => f x hx (q4x hx) (q63 e hx) (qgu hx)) h
theorem bw {k : α → Option β} (e : α → List PV) (f : ∀ x,ze l i = some x → (∀ kd,zy (.pv (.int kd i)) = some i.toNat) → (List.map e l)[i.toNat]? = some (e x) → (i.toNat < l.length) = True → k x = some r → P) (h : ze l i >>= k = some r) : P :=
 bs (fun x hx => f x hx (q4x hx) (q63 e hx) (q99 hx)) h
theorem bW {k : α → Option β} (e : α → List PV) (z : Nat) (f : ∀ x,ze l i = some x → (∀ kd,zy (.pv (.int kd i)) = some i.toNat) → (List.map e l)[i.toNat]? = some (e x) → (i.toNat < l.length) = True → l.isEmpty = false → szc z l = z → k x = some r → P) (h : ze l i >>= k = some r) : P :=
 bs (fun x hx => f x hx (q4x hx) (q63 e hx) (q99 hx) (qij hx) (qci hx z)) h
theorem bc {k : α → Option β} (f : ∀ x,ze l i = some x → (∀ kd,zy (.pv (.int kd i)) = some i.toNat) → l[i.toNat]? = some x → k x = some r → P) (h : ze l i >>= k = some r) : P :=
 bs (fun x hx => f x hx (q4x hx) (q45 hx)) h
variable {k : List α → Option β}
theorem b2 (e : α → List PV) (f : ∀ x,ji l lo hi = some x → (∀ kd,zy (.pv (.int kd lo)) = some lo.toNat) → (∀ kd,zy (.pv (.int kd hi)) = some hi.toNat) → (lo.toNat ≤ hi.toNat) = True → (hi.toNat ≤ l.length) = True → ((List.map e l).take hi.toNat).drop lo.toNat = List.map e x → (∀ z,szc (szc z l) x = szc z x) → k x = some r → P) (h : ji l lo hi >>= k = some r) : P :=
 bs (fun x hx => f x hx (znl hx) (z5q hx) (qv9 hx) (qwh hx) (z7b e hx) (z0o hx)) h
variable {s : List α}
end
section
variable (m : q4k) (k v : Int) (b : Bool) (β : Nat)
end
theorem fF {G : GP} {f : FuncId} {S : Special} {nt : Nat} {ob : Option Code} {ra : Array ResultVar} (hfi : G.fn f = some ⟨nt,ra.toList,ob.get!⟩) {c : Code} {rs : List ResultVar} {H : Heap} {args : List AV} {r : Option (AV × Heap)}
  (hs : S.call f = none := by rfl) (hc : ob = some c := by rfl) (hr : ra = ⟨rs⟩ := by rfl) (hk : xk 0 H = true := by rfl)
  (h : q3d G f H.length rs (cont G (omega G S) f [.code c] (.normal,⟨wz 0 args,H,H.length⟩)) = r := by
   simp (maxSteps := 2000000) (disch := first | assumption | rfl | exact q0i.mk (by kernel_rfl)) only [go_sem,↓reduceIte,Nat.reduceLeDiff,Nat.reduceEqDiff,Nat.reduceLT,Nat.reduceAdd,Nat.reduceSub,Nat.reduceMul,reduceCtorEq,Nat.reducePow, *]) :
  (omega G S).call f args H = r := qwj hs hfi hc hr hk h
theorem fL {G : GP} {f : FuncId} {S : Special} {fi : FI} (hfi : G.fn f = some fi) {id : Nat} {c : Code} {s : St} {r : Option (Ex × St)}
  (hc : zg fi.body id = some c := by rfl)
  (h : roundEnd G (omega G S) f id s.nx (cont G (omega G S) f [.code c] (.normal,s)) = r := by
   simp (maxSteps := 2000000) (disch := first | assumption | rfl | exact q0i.mk (by kernel_rfl)) only [go_sem,↓reduceIte,Nat.reduceLeDiff,Nat.reduceEqDiff,Nat.reduceLT,Nat.reduceAdd,Nat.reduceSub,Nat.reduceMul,reduceCtorEq,Nat.reducePow, *]) :
  (omega G S).loop f id s = r := qec hfi hc h
def refsOf (H : Heap) : List Nat → List Nat
 | [] => []
 | β :: r => (jh H β).refs ++ refsOf H r
theorem q8i (H : Heap) : ∀ d : List Nat,(d.flatMap fun β => (jh H β).refs) = refsOf H d
 | [] => rfl
 | β :: r => by rw [List.flatMap_cons,q8i H r]; rfl
theorem qkx (H : Heap) (d roots : List Nat) : gp H d roots = match roots,d with
 | [],[] => some ([],[])
 | roots,d => let L := reach H 400 (roots ++ refsOf H d) d
  if pz roots L && closedIn H L L then some (L,pick H (pos L) 0 L) else none := by
 cases roots <;> cases d <;> first | rfl | simp only [gp,q8i]
theorem qsy (H : Heap) : xc .ptr (.pv .nilptr) H = some true := rfl
theorem qra (H : Heap) (β o : Nat) : xc .ptr (.ptr β o) H = some false := rfl
theorem zi5 (H : Heap) (c : List PV) (o : Nat) : xc .ptr (.rptr c o) H = some false := rfl
theorem qf2 (H : Heap) (β ver i o : Nat) : xc .ptr (.eptr β ver i o) H = some false := rfl
theorem qmw (H : Heap) (c : List PV) : xc .ptr (.pv (.rp c)) H = some false := rfl
theorem zpc (H : Heap) (e : TypeId) (b : Bool) (sz : Nat) (es : List (List PV)) : xc (.slice e) (.pv (.sl b sz es)) H = some b := rfl
theorem qou (H : Heap) (e : TypeId) : xc (.slice e) .zsl H = some false := rfl
theorem z5d (H : Heap) (e : TypeId) (β ver off n : Nat) : xc (.slice e) (.row β ver off n) H = match H.get β with | some (.row b _ es) => if ver = es.length then some b else none | _ => none := rfl
theorem qeq (H : Heap) (k e : TypeId) : xc (.map k e) (.pv .nilmap) H = some true := rfl
theorem zt8 (H : Heap) (k e : TypeId) (β : Nat) : xc (.map k e) (.map β) H = some false := rfl
theorem zlh (H : Heap) : xc .func (.pv .nilfn) H = some true := rfl
theorem zpp (H : Heap) (f : FuncId) : xc .func (.pv (.fn f)) H = some false := rfl
theorem zs1 (H : Heap) (f : FuncId) (a b : List AV) : xc .func (.clo f a b) H = some false := rfl
theorem take_set {α β : Type} (e : α → β) (l : List α) (i : Nat) (x : α) : (List.map e (l.set i x)).take l.length = List.map e (l.set i x) := by
 have h : (l.set i x).length = l.length := List.length_set
 rw [← List.map_take,← h,List.take_length]
section
variable {α : Type} (k : Nat) (e : α → List PV) (l : List (Sl α))
end
end Go.Gm
namespace Go.Gm
open Go
end Go.Gm
