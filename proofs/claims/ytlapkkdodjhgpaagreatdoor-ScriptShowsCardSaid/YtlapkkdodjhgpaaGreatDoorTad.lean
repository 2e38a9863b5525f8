/-
  The machine, part d.
-/
import Derived.Test.YtlapkkdodjhgpaaGreatDoorTac
set_option linter.unusedSimpArgs false
set_option linter.unusedVariables false
namespace Go.Gm
open Go
abbrev Bytes := List UInt8
structure Sl (α : Type) where
 nil : Bool
 l : List α
 deriving Inhabited,DecidableEq
def zl (s : Bytes) : List PV := [.str s]
def kz (n : Int) : List PV := [.int .i64 n]
def kE (k : IntKind) (n : Int) : List PV := [.int k n]
def q65 (b : Bool) : List PV := [.bool b]
def z8 (b : UInt8) : List PV := [.int .u8 b.toNat]
def slE {α : Type} (k : Nat) (e : α → List PV) (s : Sl α) : List PV := [.sl s.nil (szc k s.l) (List.map e s.l)]
def qcy {α : Type} (e : α → List PV) (s : α × α) : List PV := e s.1 ++ e s.2
abbrev Dum : Prop := ∀ x : Bool,(x && true) = x
def qi {α : Type} (l : List α) (i : Int) : Option α := if 0 ≤ i then l[i.toNat]? else none
def jy {α : Type} (l : List α) (lo hi : Int) : Option (List α) := if (0 ≤ lo ∧ 0 ≤ hi) ∧ (lo.toNat ≤ hi.toNat ∧ hi.toNat ≤ l.length) then some ((l.take hi.toNat).drop lo.toNat) else none
def yl {α : Type} (l : List α) (hi : Int) : Option (List α) := if 0 ≤ hi ∧ hi.toNat ≤ l.length then some (l.take hi.toNat) else none
def u8 (n : Int) : UInt8 := UInt8.ofNat n.toNat
section
variable {α : Type} {l : List α} {i lo hi : Int} {x : α} {r : List α}
theorem qa1 (h : qi l i = some x) (k : IntKind) : xn (.pv (.int k i)) = some i.toNat := by
 unfold qi at h; split at h
 ·rename_i h0; simp [xn,h0]
 ·cases h
theorem q85 (h : qi l i = some x) : l[i.toNat]? = some x := by
 unfold qi at h; split at h
 ·exact h
 ·cases h
theorem qb5 {β : Type} (e : α → β) (h : qi l i = some x) : (List.map e l)[i.toNat]? = some (e x) := by simp [q85 h]
theorem zor (h : qi l i = some x) (k : Nat) : szc k l = k := by
 have := q85 h; cases l <;> simp_all [szc]
theorem z6l (h : qi l i = some x) (k : Nat) : (szc k l = k) = True := by simp [zor h]
theorem qxs (h : qi l i = some x) : (i.toNat < l.length) = True := by
 have := q85 h; simp only [eq_iff_iff,iff_true]; exact (List.getElem?_eq_some_iff.1 this).1
theorem qru (h : jy l lo hi = some r) (k : IntKind) : xn (.pv (.int k lo)) = some lo.toNat := by
 unfold jy at h; split at h
 ·rename_i h0; simp [xn,h0.1.1]
 ·cases h
theorem z15 (h : jy l lo hi = some r) (k : IntKind) : xn (.pv (.int k hi)) = some hi.toNat := by
 unfold jy at h; split at h
 ·rename_i h0; simp [xn,h0.1.2]
 ·cases h
theorem qgc (h : jy l lo hi = some r) : (lo.toNat ≤ hi.toNat) = True := by
 unfold jy at h; split at h
 ·rename_i h0; simp [h0.2.1]
 ·cases h
theorem zw6 (h : jy l lo hi = some r) : (hi.toNat ≤ l.length) = True := by
 unfold jy at h; split at h
 ·rename_i h0; simp [h0.2.2]
 ·cases h
theorem qbd (h : jy l lo hi = some r) : (l.take hi.toNat).drop lo.toNat = r := by
 unfold jy at h; split at h <;> simp_all
theorem zml (h : yl l hi = some r) (k : IntKind) : xn (.pv (.int k hi)) = some hi.toNat := by
 unfold yl at h; split at h
 ·rename_i h0; simp [xn,h0.1]
 ·cases h
theorem qj4 (h : yl l hi = some r) : (hi.toNat ≤ l.length) = True := by
 unfold yl at h; split at h
 ·rename_i h0; simp [h0.2]
 ·cases h
theorem z1s (h : yl l hi = some r) : l.take hi.toNat = r := by
 unfold yl at h; split at h <;> simp_all
theorem zh6 {β : Type} (e : α → β) (h : jy l lo hi = some r) : ((List.map e l).take hi.toNat).drop lo.toNat = List.map e r := by rw [← List.map_take,← List.map_drop,qbd h]
theorem qg1 (h : jy l lo hi = some r) (k : Nat) : szc (szc k l) r = szc k r := by
 have := qbd h
 cases r with
 | nil => rfl
 | cons => cases l <;> simp_all [szc]
theorem qcg {β : Type} (k : Nat) (e : α → β) (l : List α) : szc k (List.map e l) = szc k l := by cases l <;> rfl
theorem qo6 (k : Nat) (l : List α) : szc (szc k l) l = szc k l := by cases l <;> rfl
theorem q70 (k : Nat) : szc k ([] : List α) = 0 := rfl
theorem qcx (k : Nat) (x : α) (l : List α) : szc k (x :: l) = k := rfl
theorem qap (k : Nat) (l : List α) (x : α) (r : List α) : szc k (l ++ x :: r) = k := by cases l <;> rfl
theorem qc8 (k : Nat) (l : List α) (i : Nat) (x : α) : szc k (l.set i x) = szc k l := by cases l <;> cases i <;> rfl
theorem qbn {β : Type} (e : α → β) (l : List α) : (List.map e l).isEmpty = l.isEmpty := by cases l <;> rfl
theorem qd8 (l : List α) (x : α) (r : List α) : (l ++ x :: r).isEmpty = false := by cases l <;> rfl
theorem qd2 (l : List α) (i : Nat) (x : α) : (l.set i x).isEmpty = l.isEmpty := by cases l <;> cases i <;> rfl
theorem qcb (x : α) (l : List α) : (x :: l).isEmpty = false := rfl
theorem qe3 : ([] : List α).isEmpty = true := rfl
theorem q6y {β : Type} (k : Nat) (e : α → β) (l : List α) : (szc k l = k ∨ List.map e l = []) = True := by cases l <;> simp [szc]
theorem take_len {β : Type} (e : α → β) (l : List α) : (List.map e l).take l.length = List.map e l := by rw [← List.map_take,List.take_length]
theorem qd4 {β : Type} (e : α → β) (l r : List α) : List.map e l ++ List.map e r = List.map e (l ++ r) := by simp
theorem qv4 (s : Bytes) : List.map (fun b => [PV.int .u8 (b.toNat : Int)]) s = List.map z8 s := rfl
theorem bytesOf_map : ∀ s : Bytes,bytesOf (List.map z8 s) = some s
 | [] => rfl
 | b :: s => by simp [z8,bytesOf,bytesOf_map s]
theorem q4d (b : UInt8) : u8 (b.toNat : Int) = b := by simp [u8]
theorem q3i (n : Int) : ((u8 (IntKind.u8.wrap n)).toNat : Int) = IntKind.u8.wrap n := by
 have h : 0 ≤ IntKind.u8.wrap n ∧ IntKind.u8.wrap n < 256 := by
  simp only [IntKind.wrap,IntKind.bits,IntKind.signed]
  constructor
  ·simp; omega
  ·simp; omega
 simp only [u8,UInt8.toNat_ofNat']
 omega
theorem z3m : List.range 1 = [0] := rfl
theorem zbr : List.range 2 = [0,1] := rfl
theorem zdw : List.range 3 = [0,1,2] := rfl
theorem qy0 : List.range 4 = [0,1,2,3] := rfl
theorem zpp : List.range 5 = [0,1,2,3,4] := rfl
theorem zw4 : List.range 6 = [0,1,2,3,4,5] := rfl
def q6f (te : TI) (β L n : Nat) (src : List (List PV)) (nx : Nat) : Option Blk → Option Eff
 | some (.row true _ es) => if L = es.length ∧ n = 0 then kv te (.row β L 0 n) src β nx nx else none
 | some (.row false sz es) =>
  if L = es.length ∧ sz = te.size ∧ j4 (n + src.length) te.bytes = true then
   if n = es.length then some (.row β (es ++ src).length 0 (es ++ src).length,[(β,.row false te.size (es ++ src))],nx)
   else some (.row β (es.take n ++ src ++ es.drop (n + src.length)).length 0 (n + src.length),[(β,.row false te.size (es.take n ++ src ++ es.drop (n + src.length)))],nx)
  else none
 | _ => none
theorem zew (te : TI) (β L n nx sz : Nat) (es src : List (List PV)) : q6f te β L n src nx (some (.row false sz es)) =
  if L = es.length ∧ sz = te.size ∧ j4 (n + src.length) te.bytes = true then
   if n = es.length then some (.row β (es ++ src).length 0 (es ++ src).length,[(β,.row false te.size (es ++ src))],nx)
   else some (.row β (es.take n ++ src ++ es.drop (n + src.length)).length 0 (n + src.length),[(β,.row false te.size (es.take n ++ src ++ es.drop (n + src.length)))],nx)
  else none := rfl
theorem z7o (te : TI) (β L n nx sz : Nat) (es src : List (List PV)) : q6f te β L n src nx (some (.row true sz es)) = if L = es.length ∧ n = 0 then kv te (.row β L 0 n) src β nx nx else none := rfl
def q6o (te : TI) (β L n : Nat) (H : Heap) (nx : Nat) (d : Option Eff) : Option (Nat × List (List PV)) → Option Eff
 | none => d
 | some (xsz,src) => if (xsz = te.size ∨ src = []) ∧ 0 < te.size then q6f te β L n src nx (H.get β) else none
theorem zuy (te : TI) (β L n : Nat) (x : AV) (H : Heap) (nx : Nat) : ko te (.row β L 0 n) x H nx = q6o te β L n H nx (bq te (.row β L 0 n) x H nx) (ja x H) := by
 unfold ko q6o
 cases ja x H with
 | none => rfl
 | some p =>
  obtain ⟨xsz,src⟩ := p
  simp only
  split
  ·unfold q6f
   cases H.get β with
   | none => rfl
   | some b =>
    cases b with
    | row isnil sz es => cases isnil <;> simp
    | _ => rfl
  ·rfl
theorem qvg (te : TI) (sz : Nat) (es : List (List PV)) (x : AV) (H : Heap) (nx : Nat) : ko te (.pv (.sl true sz es)) x H nx =
  match ja x H with
  | none => bq te (.pv (.sl true sz es)) x H nx
  | some (xsz,src) => if (xsz = te.size ∨ src = []) ∧ 0 < te.size then kv te (.pv (.sl true sz es)) src nx nx (nx + 1) else none := rfl
theorem qxn (te : TI) (x : AV) (H : Heap) (nx : Nat) : ko te .zsl x H nx =
  match ja x H with
  | none => bq te .zsl x H nx
  | some (xsz,src) => if (xsz = te.size ∨ src = []) ∧ 0 < te.size then kv te .zsl src nx nx (nx + 1) else none := rfl
end
structure q78 where
 es : List (Int × Int × Nat)
 clock : Nat
 deriving Inhabited
def qdi (e : Int × Int × Nat) : PV × PV × Nat := (.int .i64 e.1,.int .i64 e.2.1,e.2.2)
def z2y (te : TI) (k : PV) (ok : Bool) : Option Blk → Option AV
 | some (.map es _) => match findKey k es 0 with
  | some (some (_,v,_)) => some (if ok then .tup [.pv v,.pv (.bool true)] else .pv v)
  | some none => some (if ok then .tup [.pv (yj te),.pv (.bool false)] else .pv (yj te))
  | none => none
 | _ => none
def z0v (β : Nat) (k v : PV) : Option Blk → Option (List (Nat × Blk))
 | some (.map es clock) => match findKey k es 0 with
  | some (some (i,_,born)) => some [(β,.map (es.set i (k,v,born)) clock)]
  | some none => some [(β,.map (es ++ [(k,v,clock)]) (clock + 1))]
  | none => none
 | _ => none
def qfj (te : TI) (β : Nat) (k : PV) : Option Blk → Option (AV × List (Nat × Blk))
 | some (.map es clock) => match findKey k es 0 with
  | some (some (i,v,born)) => some (.tup [.pv v,.pv (.int .i64 born)],[(β,.map (es.set i (k,v,born)) clock)])
  | some none => some (.tup [.pv (yj te),.pv (.int .i64 clock)],[(β,.map (es ++ [(k,yj te,clock)]) (clock + 1))])
  | none => none
 | _ => none
def qq5 (β : Nat) (born : Int) (v : PV) : Option Blk → Option (List (Nat × Blk))
 | some (.map es clock) => match q4p born es 0 with
  | some (i,k,b) => some [(β,.map (es.set i (k,v,b)) clock)]
  | none => none
 | _ => none
def qmh (β : Nat) (k : PV) : Option Blk → Option (List (Nat × Blk))
 | some (.map es clock) => match findKey k es 0 with
  | some (some (i,_,_)) => some [(β,.map (es.eraseIdx i) clock)]
  | some none => some [(β,.map es clock)]
  | none => none
 | _ => none
theorem qnx (tk te : TI) (β : Nat) (k : PV) (ok : Bool) (H : Heap) : q25 tk te (.map β) (.pv k) ok H = if zf tk.td k = true then z2y te k ok (H.get β) else none := by
 unfold q25 q34
 simp only
 split
 ·cases H.get β with
  | none => rfl
  | some b => cases b <;> rfl
 ·rfl
theorem zdk (tk : TI) (β : Nat) (k v : PV) (H : Heap) : gy tk (.map β) (.pv k) v H = if zf tk.td k = true then z0v β k v (H.get β) else none := by
 unfold gy
 simp only
 split
 ·cases H.get β with
  | none => rfl
  | some b => cases b <;> rfl
 ·rfl
theorem z1l (tk te : TI) (β : Nat) (k : PV) (H : Heap) : q07 tk te (.map β) (.pv k) H = if zf tk.td k = true then qfj te β k (H.get β) else none := by
 unfold q07
 simp only
 split
 ·cases H.get β with
  | none => rfl
  | some b => cases b <;> rfl
 ·rfl
theorem zc7 (β : Nat) (kd : IntKind) (born : Int) (v : PV) (H : Heap) : mf (.map β) (.pv (.int kd born)) v H = qq5 β born v (H.get β) := by
 unfold mf
 simp only
 cases H.get β with
 | none => rfl
 | some b => cases b <;> rfl
theorem ztl (tk : TI) (β : Nat) (k : PV) (H : Heap) : q0a tk (.map β) (.pv k) H = if zf tk.td k = true then qmh β k (H.get β) else none := by
 unfold q0a
 simp only
 split
 ·cases H.get β with
  | none => rfl
  | some b => cases b <;> rfl
 ·rfl
section
variable (b : Bool) (β : Nat) (m : q78) (k : Int)
end
theorem qut {α β : Type} (f : α → β) (a : α) (l : List α) : List.map f (a :: l) = f a :: List.map f l := rfl
theorem qtq {α β : Type} (f : α → β) : List.map f ([] : List α) = [] := rfl
theorem zul {α : Type} : ([] : List α).length = 0 := rfl
theorem qm6 {α : Type} (a : α) (l : List α) : (a :: l).length = l.length + 1 := rfl
theorem qxu {α : Type} (l : List α) (x : α) : (l.length < (l ++ [x]).length) = True := by simp
theorem qv3 {α β : Type} (f : α → β) (l : List α) (x : β) : (l.length < (List.map f l ++ [x]).length) = True := by simp
theorem qae {α : Type} (l : List α) (i : Nat) (x : α) : (l.set i x).length = l.length := List.length_set
def zsb := PLift.up (And.intro @qut (And.intro @qtq (And.intro @zul (And.intro @qm6 (And.intro @q70 (And.intro @qcx (And.intro @qap (And.intro @qc8 (And.intro @qe3 (And.intro @qcb (And.intro @qd8 (And.intro @qd2 (And.intro @qae (And.intro @q4d @q3i))))))))))))))
theorem qjm {α : Type} {P : Program} {t : TypeId} {e : α → List PV} {ok : α → Prop} {n : Nat} (h : Reads P t e ok n) : Reads P t e (fun _ => True) n := h.map (fun x => x) (fun _ _ => ⟨trivial,rfl⟩)
def q1f {α β : Type} (e1 : α → List PV) (e2 : β → List PV) (x : α × β) : List PV := e1 x.1 ++ e2 x.2
def xy {α : Type} (_ : α) : Prop := True
def q0w (_ : Unit) : List PV := []
theorem q7b {P : Program} (n off : Nat) : ny P [] q0w xy n off := by
 intro H enc w base spare held fuel cs a b d
 obtain ⟨x,m,_,h⟩ := ny.nil (P := P) n off H enc w base spare held fuel cs a b d
 exact ⟨x,m,trivial,h⟩
def inI (n : Int) : Prop := -9223372036854775808 ≤ n ∧ n ≤ 9223372036854775807
def xz (s : Bytes) : Prop := s.length ≤ maxLen
def zn {α : Type} (ok : α → Prop) (s : Sl α) : Prop := (s.l.length ≤ maxLen ∧ (s.nil = true → s.l = [])) ∧ ∀ a ∈ s.l,ok a
def z1o {α β : Type} (o1 : α → Prop) (o2 : β → Prop) (x : α × β) : Prop := o1 x.1 ∧ o2 x.2
theorem uh {α β : Type} {P : Program} {f : Field} {fs : List Field} {e1 : α → List PV} {ok1 : α → Prop} {e2 : β → List PV} {ok2 : β → Prop} {n off c : Nat} (ho : f.offset = off) (hc : P.cellsOf f.type = c)
  (h1 : Reads P f.type e1 ok1 n) (h2 : ny P fs e2 ok2 n (off + c)) : ny P (f :: fs) (q1f e1 e2) (z1o ok1 ok2) n off := by
 intro H enc w base spare held fuel cs a b d
 obtain ⟨x,m,h0,h⟩ := ny.cons ho hc h1 h2 H enc w base spare held fuel cs a b d
 exact ⟨x,m,h0,h⟩
theorem q3k {P : Program} {t : TypeId} (ht : P.underlying t = some (.int .i64)) (hc : P.cellsOf t = 1) (n : Nat) : Reads P t kz inI n :=
 (Reads.int ht hc n).map (fun x => x) (fun x hx => ⟨by
  simp [Lit.wf,IntKind.min,IntKind.max,IntKind.signed,IntKind.bits] at hx
  exact hx,rfl⟩)
def inU (n : Int) : Prop := 0 ≤ n ∧ n ≤ 4294967295
theorem z9y {P : Program} {t : TypeId} (ht : P.underlying t = some (.int .u32)) (hc : P.cellsOf t = 1) (n : Nat) : Reads P t (kE .u32) inU n :=
 (Reads.int ht hc n).map (fun x => x) (fun x hx => ⟨by
  simp [Lit.wf,IntKind.min,IntKind.max,IntKind.signed,IntKind.bits] at hx
  exact hx,rfl⟩)
theorem q69 {α : Type} {P : Program} {t el : TypeId} {sz : Nat} {e : α → List PV} {ok : α → Prop} {n : Nat} (ht : P.underlying t = some (.slice el)) (hc : P.cellsOf t = 1) (hsz : P.cellsOf el = sz) (hpos : 0 < sz)
  (h : Reads P el e ok n) : Reads P t (slE sz e) (zn ok) n :=
 ((Reads.slice ht hc hsz hpos h).map (fun x => (⟨x.1 && x.2.isEmpty,x.2⟩ : Sl α)) (fun x hx => ⟨⟨⟨hx.1,by simp⟩,hx.2⟩,by simp [slE,slP,qbn,qcg]⟩)).mono (Nat.le_succ n)
theorem drop_cons {α : Type} {xs : List α} {i : Nat} {x : α} {r : List α} (h : xs.drop i = x :: r) : xs[i]? = some x ∧ xs.drop (i + 1) = r ∧ i < xs.length := by
 have h1 : xs[i]? = some x := by
  have := congrArg (fun l => l[0]?) h
  simpa using this
 have h2 : xs.drop (i + 1) = r := by
  have := congrArg (fun l => l.drop 1) h
  simpa [List.drop_drop] using this
 exact ⟨h1,h2,(List.getElem?_eq_some_iff.1 h1).1⟩
theorem qed {n : Int} (h1 : -9223372036854775808 ≤ n) (h2 : n ≤ 9223372036854775807) : IntKind.i64.wrap n = n := IntWalk.i64_in n ⟨h1,h2⟩
theorem wm {n : Nat} (h : n < 9223372036854775807) : IntKind.i64.wrap ((n : Int) + 1) = ((n + 1 : Nat) : Int) := qed (by omega) (by omega)
theorem qz6 (b : Bool) : AV.cells (.pv (.bool b)) = [(.pv (.bool b))] := rfl
theorem z4x (k : IntKind) (n : Int) : AV.cells (.pv (.int k n)) = [(.pv (.int k n))] := rfl
theorem qo5 (l : List UInt8) : AV.cells (.pv (.str l)) = [(.pv (.str l))] := rfl
theorem qfs (a : Bool) (b : Nat) (c : List (List PV)) : AV.cells (.pv (.sl a b c)) = [(.pv (.sl a b c))] := rfl
theorem qw5 : AV.cells (.pv (.nilptr)) = [(.pv (.nilptr))] := rfl
theorem zws : AV.cells (.pv (.nilfn)) = [(.pv (.nilfn))] := rfl
theorem za9 : AV.cells (.pv (.nilmap)) = [(.pv (.nilmap))] := rfl
theorem zcf : AV.cells (.pv (.nilif)) = [(.pv (.nilif))] := rfl
theorem qvd (f : FuncId) : AV.cells (.pv (.fn f)) = [(.pv (.fn f))] := rfl
theorem qyu (c : List PV) : AV.cells (.pv (.rp c)) = [(.pv (.rp c))] := rfl
theorem qui (c : List PV) : AV.cells (.pv (.agg c)) = c.map .pv := rfl
theorem zo7 (x y : Nat) : AV.cells (.ptr x y) = [(.ptr x y)] := rfl
theorem zqv (x y z u : Nat) : AV.cells (.eptr x y z u) = [(.eptr x y z u)] := rfl
theorem qre (c : List PV) (x : Nat) : AV.cells (.rptr c x) = [(.rptr c x)] := rfl
theorem zet (x y z u : Nat) : AV.cells (.row x y z u) = [(.row x y z u)] := rfl
theorem qqj : AV.cells (.zsl) = [(.zsl)] := rfl
theorem zd1 (x : Nat) : AV.cells (.map x) = [(.map x)] := rfl
theorem zoh (f : FuncId) (a b : List AV) : AV.cells (.clo f a b) = [(.clo f a b)] := rfl
theorem zfn (l : List AV) : AV.cells (.tup l) = [(.tup l)] := rfl
theorem zrr (c : List AV) : AV.cells (.agg c) = c := rfl
abbrev v_i (n : Int) : AV := .pv (.int .i64 n)
abbrev v_b (b : Bool) : AV := .pv (.bool b)
abbrev v_s (s : Bytes) : AV := .pv (.str s)
abbrev v_g (l : List PV) : AV := .pv (.agg l)
abbrev v_l {α : Type} (k : Nat) (e : α → List PV) (s : Sl α) : AV := .pv (.sl s.nil (szc k s.l) (List.map e s.l))
abbrev v_r {α : Type} (β : Nat) (l : List α) : AV := .row β l.length 0 l.length
abbrev b_x (l : List PV) : Blk := .box (List.map .pv l)
abbrev b_r {α : Type} (k : Nat) (e : α → List PV) (l : List α) : Blk := .row l.isEmpty (szc k l) (List.map e l)
abbrev b_m (m : q78) : Blk := .map (List.map qdi m.es) m.clock
theorem zoq (n : Int) : v_i n = .pv (.int .i64 n) := rfl
theorem qhb (b : Bool) : v_b b = .pv (.bool b) := rfl
theorem zjo (s : Bytes) : v_s s = .pv (.str s) := rfl
theorem qg0 (l : List PV) : v_g l = .pv (.agg l) := rfl
theorem z2r {α : Type} (k : Nat) (e : α → List PV) (s : Sl α) : v_l k e s = .pv (.sl s.nil (szc k s.l) (List.map e s.l)) := rfl
theorem zoo {α : Type} (β : Nat) (l : List α) : v_r β l = .row β l.length 0 l.length := rfl
theorem qxk (l : List PV) : b_x l = .box (List.map .pv l) := rfl
theorem qvn {α : Type} (k : Nat) (e : α → List PV) (l : List α) : b_r k e l = .row l.isEmpty (szc k l) (List.map e l) := rfl
theorem zdh (m : q78) : b_m m = .map (List.map qdi m.es) m.clock := rfl
theorem zdt (b : UInt8) : z8 b = [.int .u8 b.toNat] := rfl
theorem qom (n : Int) : kz n = [.int .i64 n] := rfl
theorem qmn (s : Bytes) : zl s = [.str s] := rfl
theorem zsh (b : Bool) : q65 b = [.bool b] := rfl
theorem zka (k : IntKind) (n : Int) : kE k n = [.int k n] := rfl
theorem qm5 {α : Type} (k : Nat) (e : α → List PV) (s : Sl α) : slE k e s = [.sl s.nil (szc k s.l) (List.map e s.l)] := rfl
theorem qz4 {α : Type} (e : α → List PV) (s : α × α) : qcy e s = e s.1 ++ e s.2 := rfl
def zbl := PLift.up (And.intro @zoq (And.intro @qhb (And.intro @zjo (And.intro @qg0 (And.intro @z2r (And.intro @zoo (And.intro @qxk (And.intro @qvn (And.intro @zdh (And.intro @zdt (And.intro @qom (And.intro @qmn (And.intro @zsh (And.intro @zka (And.intro @qm5 @qz4)))))))))))))))
section
variable {α β : Type} {r : β} {P : Prop}
theorem bs {o : Option α} {k : α → Option β} (f : ∀ x,o = some x → k x = some r → P) (h : o >>= k = some r) : P := by
 obtain ⟨x,h1,h2⟩ := Option.bind_eq_some_iff.1 h
 exact f x h1 h2
theorem it {b : Bool} {p q : Option β} (f : b = true → p = some r → P) (g : b = false → q = some r → P) (h : (if b = true then p else q) = some r) : P := by
 cases b
 ·exact g rfl h
 ·exact f rfl h
theorem gd {Q : Prop} [Decidable Q] {p : Option β} (f : Q → p = some r → P) (h : (if Q then p else none) = some r) : P := by
 split at h
 ·exact f ‹_› h
 ·cases h
variable {l : List α} {i lo hi : Int}
theorem bg {k : α → Option β} (e : α → List PV) (f : ∀ x,qi l i = some x → (∀ kd,xn (.pv (.int kd i)) = some i.toNat) → (List.map e l)[i.toNat]? = some (e x) → (∀ z,(szc z l = z) = True) → k x = some r → P) (h : qi l i >>= k = some r) : P :=
 bs (fun x hx => f x hx (qa1 hx) (qb5 e hx) (z6l hx)) h
theorem bw {k : α → Option β} (e : α → List PV) (f : ∀ x,qi l i = some x → (∀ kd,xn (.pv (.int kd i)) = some i.toNat) → (List.map e l)[i.toNat]? = some (e x) → (i.toNat < l.length) = True → k x = some r → P) (h : qi l i >>= k = some r) : P :=
 bs (fun x hx => f x hx (qa1 hx) (qb5 e hx) (qxs hx)) h
variable {k : List α → Option β}
theorem b2 (e : α → List PV) (f : ∀ x,jy l lo hi = some x → (∀ kd,xn (.pv (.int kd lo)) = some lo.toNat) → (∀ kd,xn (.pv (.int kd hi)) = some hi.toNat) → (lo.toNat ≤ hi.toNat) = True → (hi.toNat ≤ l.length) = True → ((List.map e l).take hi.toNat).drop lo.toNat = List.map e x → (∀ z,szc (szc z l) x = szc z x) → k x = some r → P) (h : jy l lo hi >>= k = some r) : P :=
 bs (fun x hx => f x hx (qru hx) (z15 hx) (qgc hx) (zw6 hx) (zh6 e hx) (qg1 hx)) h
theorem bTs (f : ∀ x,yl l hi = some x → (∀ kd,xn (.pv (.int kd hi)) = some hi.toNat) → (hi.toNat ≤ l.length) = True → l.take hi.toNat = x → k x = some r → P) (h : yl l hi >>= k = some r) : P :=
 bs (fun x hx => f x hx (zml hx) (qj4 hx) (z1s hx)) h
variable {s : List α}
end
section
variable (m : q78) (k v : Int) (b : Bool) (β : Nat)
end
theorem fF {G : GP} {f : FuncId} {S : Special} {nt : Nat} {ob : Option Code} {ra : Array ResultVar} (hfi : G.fn f = some ⟨nt,ra.toList,ob.get!⟩) {c : Code} {rs : List ResultVar} {H : Heap} {args : List AV} {r : Option (AV × Heap)}
  (hs : S.call f = none := by rfl) (hc : ob = some c := by rfl) (hr : ra = ⟨rs⟩ := by rfl) (hk : j5 0 H = true := by rfl)
  (h : q4x G f H.length rs (cont G (omega G S) f [.code c] (.normal,⟨u6 0 args,H,H.length⟩)) = r := by
   simp (maxSteps := 2000000) (disch := first | assumption | rfl | exact q9d.mk (by kernel_rfl)) only [go_sem,↓reduceIte,Nat.reduceLeDiff,Nat.reduceEqDiff,Nat.reduceLT,Nat.reduceAdd,Nat.reduceSub,Nat.reduceMul,reduceCtorEq,Nat.reducePow, *]) :
  (omega G S).call f args H = r := zst hs hfi hc hr hk h
theorem fL {G : GP} {f : FuncId} {S : Special} {fi : FI} (hfi : G.fn f = some fi) {id : Nat} {c : Code} {s : St} {r : Option (Ex × St)}
  (hc : zh fi.body id = some c := by rfl)
  (h : roundEnd G (omega G S) f id s.nx (cont G (omega G S) f [.code c] (.normal,s)) = r := by
   simp (maxSteps := 2000000) (disch := first | assumption | rfl | exact q9d.mk (by kernel_rfl)) only [go_sem,↓reduceIte,Nat.reduceLeDiff,Nat.reduceEqDiff,Nat.reduceLT,Nat.reduceAdd,Nat.reduceSub,Nat.reduceMul,reduceCtorEq,Nat.reducePow, *]) :
  (omega G S).loop f id s = r := qq9 hfi hc h
def refsOf (H : Heap) : List Nat → List Nat
 | [] => []
 | β :: r => (jo H β).refs ++ refsOf H r
theorem qbu (H : Heap) : ∀ d : List Nat,(d.flatMap fun β => (jo H β).refs) = refsOf H d
 | [] => rfl
 | β :: r => by rw [List.flatMap_cons,qbu H r]; rfl
theorem zl5 (H : Heap) (d roots : List Nat) : mg H d roots = match roots,d with
 | [],[] => some ([],[])
 | roots,d => let L := reach H 400 (roots ++ refsOf H d) d
  if q18 roots L && closedIn H L L then some (L,pick H (pos L) 0 L) else none := by
 cases roots <;> cases d <;> first | rfl | simp only [mg,qbu]
theorem qk1 (H : Heap) : xw .ptr (.pv .nilptr) H = some true := rfl
theorem zlz (H : Heap) (β o : Nat) : xw .ptr (.ptr β o) H = some false := rfl
theorem z6j (H : Heap) (c : List PV) (o : Nat) : xw .ptr (.rptr c o) H = some false := rfl
theorem qiy (H : Heap) (β ver i o : Nat) : xw .ptr (.eptr β ver i o) H = some false := rfl
theorem zhx (H : Heap) (c : List PV) : xw .ptr (.pv (.rp c)) H = some false := rfl
theorem zqp (H : Heap) (e : TypeId) (b : Bool) (sz : Nat) (es : List (List PV)) : xw (.slice e) (.pv (.sl b sz es)) H = some b := rfl
theorem qjk (H : Heap) (e : TypeId) : xw (.slice e) .zsl H = some false := rfl
theorem qf1 (H : Heap) (e : TypeId) (β ver off n : Nat) : xw (.slice e) (.row β ver off n) H = match H.get β with | some (.row b _ es) => if ver = es.length then some b else none | _ => none := rfl
theorem z5a (H : Heap) (k e : TypeId) : xw (.map k e) (.pv .nilmap) H = some true := rfl
theorem za0 (H : Heap) (k e : TypeId) (β : Nat) : xw (.map k e) (.map β) H = some false := rfl
theorem z3d (H : Heap) : xw .func (.pv .nilfn) H = some true := rfl
theorem zdu (H : Heap) (f : FuncId) : xw .func (.pv (.fn f)) H = some false := rfl
theorem zsv (H : Heap) (f : FuncId) (a b : List AV) : xw .func (.clo f a b) H = some false := rfl
theorem take_set {α β : Type} (e : α → β) (l : List α) (i : Nat) (x : α) : (List.map e (l.set i x)).take l.length = List.map e (l.set i x) := by
 have h : (l.set i x).length = l.length := List.length_set
 rw [← List.map_take,← h,List.take_length]
end Go.Gm
namespace Go.Gm
open Go
end Go.Gm
