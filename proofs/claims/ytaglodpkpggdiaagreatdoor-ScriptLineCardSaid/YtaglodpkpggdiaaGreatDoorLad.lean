/-
  The machine, part d.
-/
import Derived.Test.YtaglodpkpggdiaaGreatDoorLac
set_option linter.unusedSimpArgs false
set_option linter.unusedVariables false
namespace Go.Gm
open Go
abbrev Bytes := List UInt8
structure Sl (α : Type) where
 nil : Bool
 l : List α
 deriving Inhabited,DecidableEq
def zn (s : Bytes) : List PV := [.str s]
def yn (n : Int) : List PV := [.int .i64 n]
def kE (k : IntKind) (n : Int) : List PV := [.int k n]
def q8x (b : Bool) : List PV := [.bool b]
def z8 (b : UInt8) : List PV := [.int .u8 b.toNat]
def slE {α : Type} (k : Nat) (e : α → List PV) (s : Sl α) : List PV := [.sl s.nil (szc k s.l) (List.map e s.l)]
def qdo {α : Type} (e : α → List PV) (s : α × α) : List PV := e s.1 ++ e s.2
abbrev Dum : Prop := ∀ x : Bool,(x && true) = x
def ql {α : Type} (l : List α) (i : Int) : Option α := if 0 ≤ i then l[i.toNat]? else none
def ji {α : Type} (l : List α) (lo hi : Int) : Option (List α) := if (0 ≤ lo ∧ 0 ≤ hi) ∧ (lo.toNat ≤ hi.toNat ∧ hi.toNat ≤ l.length) then some ((l.take hi.toNat).drop lo.toNat) else none
def u8 (n : Int) : UInt8 := UInt8.ofNat n.toNat
section
variable {α : Type} {l : List α} {i lo hi : Int} {x : α} {r : List α}
theorem qfh (h : ql l i = some x) (k : IntKind) : jh (.pv (.int k i)) = some i.toNat := by
 unfold ql at h; split at h
 ·rename_i h0; simp [jh,h0]
 ·cases h
theorem q9i (h : ql l i = some x) : l[i.toNat]? = some x := by
 unfold ql at h; split at h
 ·exact h
 ·cases h
theorem q9x {β : Type} (e : α → β) (h : ql l i = some x) : (List.map e l)[i.toNat]? = some (e x) := by simp [q9i h]
theorem z7b (h : ql l i = some x) (k : Nat) : szc k l = k := by
 have := q9i h; cases l <;> simp_all [szc]
theorem z3h (h : ql l i = some x) (k : Nat) : (szc k l = k) = True := by simp [z7b h]
theorem qdm (h : ql l i = some x) : (i.toNat < l.length) = True := by
 have := q9i h; simp only [eq_iff_iff,iff_true]; exact (List.getElem?_eq_some_iff.1 this).1
theorem qs2 (h : ji l lo hi = some r) (k : IntKind) : jh (.pv (.int k lo)) = some lo.toNat := by
 unfold ji at h; split at h
 ·rename_i h0; simp [jh,h0.1.1]
 ·cases h
theorem qkv (h : ji l lo hi = some r) (k : IntKind) : jh (.pv (.int k hi)) = some hi.toNat := by
 unfold ji at h; split at h
 ·rename_i h0; simp [jh,h0.1.2]
 ·cases h
theorem x3s (h : ji l lo hi = some r) : (lo.toNat ≤ hi.toNat) = True := by
 unfold ji at h; split at h
 ·rename_i h0; simp [h0.2.1]
 ·cases h
theorem qj1 (h : ji l lo hi = some r) : (hi.toNat ≤ l.length) = True := by
 unfold ji at h; split at h
 ·rename_i h0; simp [h0.2.2]
 ·cases h
theorem qfr (h : ji l lo hi = some r) : (l.take hi.toNat).drop lo.toNat = r := by
 unfold ji at h; split at h <;> simp_all
theorem zlv {β : Type} (e : α → β) (h : ji l lo hi = some r) : ((List.map e l).take hi.toNat).drop lo.toNat = List.map e r := by rw [← List.map_take,← List.map_drop,qfr h]
theorem z19 (h : ji l lo hi = some r) (k : Nat) : szc (szc k l) r = szc k r := by
 have := qfr h
 cases r with
 | nil => rfl
 | cons => cases l <;> simp_all [szc]
theorem qfs {β : Type} (k : Nat) (e : α → β) (l : List α) : szc k (List.map e l) = szc k l := by cases l <;> rfl
theorem qjr (k : Nat) (l : List α) : szc (szc k l) l = szc k l := by cases l <;> rfl
theorem kv (k : Nat) : szc k ([] : List α) = 0 := rfl
theorem qf1 (k : Nat) (x : α) (l : List α) : szc k (x :: l) = k := rfl
theorem qe7 (k : Nat) (l : List α) (x : α) (r : List α) : szc k (l ++ x :: r) = k := by cases l <;> rfl
theorem qi6 (k : Nat) (l : List α) (i : Nat) (x : α) : szc k (l.set i x) = szc k l := by cases l <;> cases i <;> rfl
theorem qi5 {β : Type} (e : α → β) (l : List α) : (List.map e l).isEmpty = l.isEmpty := by cases l <;> rfl
theorem qgv (l : List α) (x : α) (r : List α) : (l ++ x :: r).isEmpty = false := by cases l <;> rfl
theorem qcq (l : List α) (i : Nat) (x : α) : (l.set i x).isEmpty = l.isEmpty := by cases l <;> cases i <;> rfl
theorem qi3 (x : α) (l : List α) : (x :: l).isEmpty = false := rfl
theorem qfp : ([] : List α).isEmpty = true := rfl
theorem q6t {β : Type} (k : Nat) (e : α → β) (l : List α) : (szc k l = k ∨ List.map e l = []) = True := by cases l <;> simp [szc]
theorem take_len {β : Type} (e : α → β) (l : List α) : (List.map e l).take l.length = List.map e l := by rw [← List.map_take,List.take_length]
theorem qhl {β : Type} (e : α → β) (l r : List α) : List.map e l ++ List.map e r = List.map e (l ++ r) := by simp
theorem zhc (s : Bytes) : List.map (fun b => [PV.int .u8 (b.toNat : Int)]) s = List.map z8 s := rfl
theorem bytesOf_map : ∀ s : Bytes,bytesOf (List.map z8 s) = some s
 | [] => rfl
 | b :: s => by simp [z8,bytesOf,bytesOf_map s]
theorem kr (b : UInt8) : u8 (b.toNat : Int) = b := by simp [u8]
theorem w9 (n : Int) : ((u8 (IntKind.u8.wrap n)).toNat : Int) = IntKind.u8.wrap n := by
 have h : 0 ≤ IntKind.u8.wrap n ∧ IntKind.u8.wrap n < 256 := by
  simp only [IntKind.wrap,IntKind.bits,IntKind.signed]
  constructor
  ·simp; omega
  ·simp; omega
 simp only [u8,UInt8.toNat_ofNat']
 omega
theorem zet : List.range 1 = [0] := rfl
theorem zj3 : List.range 2 = [0,1] := rfl
theorem ztm : List.range 3 = [0,1,2] := rfl
theorem zv2 : List.range 4 = [0,1,2,3] := rfl
theorem qr0 : List.range 5 = [0,1,2,3,4] := rfl
theorem qkk : List.range 6 = [0,1,2,3,4,5] := rfl
def q3s (te : TI) (β L n : Nat) (src : List (List PV)) (nx : Nat) : Option Blk → Option Eff
 | some (.row true _ es) => if L = es.length ∧ n = 0 then vg te (.row β L 0 n) src β nx nx else none
 | some (.row false sz es) =>
  if L = es.length ∧ sz = te.size ∧ zf (n + src.length) te.bytes = true then
   if n = es.length then some (.row β (es ++ src).length 0 (es ++ src).length,[(β,.row false te.size (es ++ src))],nx)
   else some (.row β (es.take n ++ src ++ es.drop (n + src.length)).length 0 (n + src.length),[(β,.row false te.size (es.take n ++ src ++ es.drop (n + src.length)))],nx)
  else none
 | _ => none
theorem zf4 (te : TI) (β L n nx sz : Nat) (es src : List (List PV)) : q3s te β L n src nx (some (.row false sz es)) =
  if L = es.length ∧ sz = te.size ∧ zf (n + src.length) te.bytes = true then
   if n = es.length then some (.row β (es ++ src).length 0 (es ++ src).length,[(β,.row false te.size (es ++ src))],nx)
   else some (.row β (es.take n ++ src ++ es.drop (n + src.length)).length 0 (n + src.length),[(β,.row false te.size (es.take n ++ src ++ es.drop (n + src.length)))],nx)
  else none := rfl
theorem zr3 (te : TI) (β L n nx sz : Nat) (es src : List (List PV)) : q3s te β L n src nx (some (.row true sz es)) = if L = es.length ∧ n = 0 then vg te (.row β L 0 n) src β nx nx else none := rfl
def q92 (te : TI) (β L n : Nat) (H : Heap) (nx : Nat) (d : Option Eff) : Option (Nat × List (List PV)) → Option Eff
 | none => d
 | some (xsz,src) => if (xsz = te.size ∨ src = []) ∧ 0 < te.size then q3s te β L n src nx (H.get β) else none
theorem zyu (te : TI) (β L n : Nat) (x : AV) (H : Heap) (nx : Nat) : y9 te (.row β L 0 n) x H nx = q92 te β L n H nx (q0m te (.row β L 0 n) x H nx) (jr x H) := by
 unfold y9 q92
 cases jr x H with
 | none => rfl
 | some p =>
  obtain ⟨xsz,src⟩ := p
  simp only
  split
  ·unfold q3s
   cases H.get β with
   | none => rfl
   | some b =>
    cases b with
    | row isnil sz es => cases isnil <;> simp
    | _ => rfl
  ·rfl
theorem qn8 (te : TI) (sz : Nat) (es : List (List PV)) (x : AV) (H : Heap) (nx : Nat) : y9 te (.pv (.sl true sz es)) x H nx =
  match jr x H with
  | none => q0m te (.pv (.sl true sz es)) x H nx
  | some (xsz,src) => if (xsz = te.size ∨ src = []) ∧ 0 < te.size then vg te (.pv (.sl true sz es)) src nx nx (nx + 1) else none := rfl
theorem z13 (te : TI) (x : AV) (H : Heap) (nx : Nat) : y9 te .zsl x H nx =
  match jr x H with
  | none => q0m te .zsl x H nx
  | some (xsz,src) => if (xsz = te.size ∨ src = []) ∧ 0 < te.size then vg te .zsl src nx nx (nx + 1) else none := rfl
theorem z9l (te : TI) (β k nx : Nat) (e : α → List PV) (l : List α) (c : List PV) (src : List (List PV)) (hk : k = te.size) (hr : zf (l.length + (c :: src).length) te.bytes = true) :
  q3s te β l.length l.length (c :: src) nx (some (.row l.isEmpty (szc k l) (List.map e l))) =
   some (.row β (List.map e l ++ c :: src).length 0 (List.map e l ++ c :: src).length,[(β,.row false k (List.map e l ++ c :: src))],nx) := by
 subst hk
 cases l with
 | nil =>
  have hr' : zf (src.length + 1) te.bytes = true := by simpa using hr
  simp [q3s,vg,hr']
 | cons a l =>
  have hr' : zf (l.length + 1 + (src.length + 1)) te.bytes = true := by simpa using hr
  simp [q3s,szc,hr']
end
structure q8o where
 es : List (Int × Int × Nat)
 clock : Nat
 deriving Inhabited
def qcy (e : Int × Int × Nat) : PV × PV × Nat := (.int .i64 e.1,.int .i64 e.2.1,e.2.2)
def z8b (te : TI) (k : PV) (ok : Bool) : Option Blk → Option AV
 | some (.map es _) => match findKey k es 0 with
  | some (some (_,v,_)) => some (if ok then .tup [.pv v,.pv (.bool true)] else .pv v)
  | some none => some (if ok then .tup [.pv (gm te),.pv (.bool false)] else .pv (gm te))
  | none => none
 | _ => none
def zem (β : Nat) (k v : PV) : Option Blk → Option (List (Nat × Blk))
 | some (.map es clock) => match findKey k es 0 with
  | some (some (i,_,born)) => some [(β,.map (es.set i (k,v,born)) clock)]
  | some none => some [(β,.map (es ++ [(k,v,clock)]) (clock + 1))]
  | none => none
 | _ => none
def zur (te : TI) (β : Nat) (k : PV) : Option Blk → Option (AV × List (Nat × Blk))
 | some (.map es clock) => match findKey k es 0 with
  | some (some (i,v,born)) => some (.tup [.pv v,.pv (.int .i64 born)],[(β,.map (es.set i (k,v,born)) clock)])
  | some none => some (.tup [.pv (gm te),.pv (.int .i64 clock)],[(β,.map (es ++ [(k,gm te,clock)]) (clock + 1))])
  | none => none
 | _ => none
def z98 (β : Nat) (born : Int) (v : PV) : Option Blk → Option (List (Nat × Blk))
 | some (.map es clock) => match q6w born es 0 with
  | some (i,k,b) => some [(β,.map (es.set i (k,v,b)) clock)]
  | none => none
 | _ => none
def qnh (β : Nat) (k : PV) : Option Blk → Option (List (Nat × Blk))
 | some (.map es clock) => match findKey k es 0 with
  | some (some (i,_,_)) => some [(β,.map (es.eraseIdx i) clock)]
  | some none => some [(β,.map es clock)]
  | none => none
 | _ => none
theorem zfy (tk te : TI) (β : Nat) (k : PV) (ok : Bool) (H : Heap) : q2s tk te (.map β) (.pv k) ok H = if zh tk.td k = true then z8b te k ok (H.get β) else none := by
 unfold q2s q4e
 simp only
 split
 ·cases H.get β with
  | none => rfl
  | some b => cases b <;> rfl
 ·rfl
theorem qnl (tk : TI) (β : Nat) (k v : PV) (H : Heap) : q0c tk (.map β) (.pv k) v H = if zh tk.td k = true then zem β k v (H.get β) else none := by
 unfold q0c
 simp only
 split
 ·cases H.get β with
  | none => rfl
  | some b => cases b <;> rfl
 ·rfl
theorem zni (tk te : TI) (β : Nat) (k : PV) (H : Heap) : q0x tk te (.map β) (.pv k) H = if zh tk.td k = true then zur te β k (H.get β) else none := by
 unfold q0x
 simp only
 split
 ·cases H.get β with
  | none => rfl
  | some b => cases b <;> rfl
 ·rfl
theorem zkj (β : Nat) (kd : IntKind) (born : Int) (v : PV) (H : Heap) : q0j (.map β) (.pv (.int kd born)) v H = z98 β born v (H.get β) := by
 unfold q0j
 simp only
 cases H.get β with
 | none => rfl
 | some b => cases b <;> rfl
theorem z8i (tk : TI) (β : Nat) (k : PV) (H : Heap) : q1a tk (.map β) (.pv k) H = if zh tk.td k = true then qnh β k (H.get β) else none := by
 unfold q1a
 simp only
 split
 ·cases H.get β with
  | none => rfl
  | some b => cases b <;> rfl
 ·rfl
section
variable (b : Bool) (β : Nat) (m : q8o) (k : Int)
end
theorem zqk {α β : Type} (f : α → β) (a : α) (l : List α) : List.map f (a :: l) = f a :: List.map f l := rfl
theorem zzu {α β : Type} (f : α → β) : List.map f ([] : List α) = [] := rfl
theorem z1l {α : Type} : ([] : List α).length = 0 := rfl
theorem qqa {α : Type} (a : α) (l : List α) : (a :: l).length = l.length + 1 := rfl
theorem qya {α : Type} (l : List α) (x : α) : (l.length < (l ++ [x]).length) = True := by simp
theorem z1x {α β : Type} (f : α → β) (l : List α) (x : β) : (l.length < (List.map f l ++ [x]).length) = True := by simp
theorem qe1 {α : Type} (l : List α) (i : Nat) (x : α) : (l.set i x).length = l.length := List.length_set
def qqk := PLift.up (And.intro @zqk (And.intro @zzu (And.intro @z1l (And.intro @qqa (And.intro @kv (And.intro @qf1 (And.intro @qe7 (And.intro @qi6 (And.intro @qfp (And.intro @qi3 (And.intro @qgv (And.intro @qcq (And.intro @qe1 (And.intro @kr @w9))))))))))))))
theorem z1h {α : Type} {P : Program} {t : TypeId} {e : α → List PV} {ok : α → Prop} {n : Nat} (h : Reads P t e ok n) : Reads P t e (fun _ => True) n := h.map (fun x => x) (fun _ _ => ⟨trivial,rfl⟩)
def q28 {α β : Type} (e1 : α → List PV) (e2 : β → List PV) (x : α × β) : List PV := e1 x.1 ++ e2 x.2
def jc {α : Type} (_ : α) : Prop := True
def q2c (_ : Unit) : List PV := []
theorem q7w {P : Program} (n off : Nat) : q0n P [] q2c jc n off := by
 intro H enc w base spare held fuel cs a b d
 obtain ⟨x,m,_,h⟩ := q0n.nil (P := P) n off H enc w base spare held fuel cs a b d
 exact ⟨x,m,trivial,h⟩
def inI (n : Int) : Prop := -9223372036854775808 ≤ n ∧ n ≤ 9223372036854775807
def jl (s : Bytes) : Prop := s.length ≤ maxLen
def zw {α : Type} (ok : α → Prop) (s : Sl α) : Prop := (s.l.length ≤ maxLen ∧ (s.nil = true → s.l = [])) ∧ ∀ a ∈ s.l,ok a
def zk3 {α β : Type} (o1 : α → Prop) (o2 : β → Prop) (x : α × β) : Prop := o1 x.1 ∧ o2 x.2
theorem nz {α β : Type} {P : Program} {f : Field} {fs : List Field} {e1 : α → List PV} {ok1 : α → Prop} {e2 : β → List PV} {ok2 : β → Prop} {n off c : Nat} (ho : f.offset = off) (hc : P.cellsOf f.type = c)
  (h1 : Reads P f.type e1 ok1 n) (h2 : q0n P fs e2 ok2 n (off + c)) : q0n P (f :: fs) (q28 e1 e2) (zk3 ok1 ok2) n off := by
 intro H enc w base spare held fuel cs a b d
 obtain ⟨x,m,h0,h⟩ := q0n.cons ho hc h1 h2 H enc w base spare held fuel cs a b d
 exact ⟨x,m,h0,h⟩
theorem q4s {P : Program} {t : TypeId} (ht : P.underlying t = some (.int .i64)) (hc : P.cellsOf t = 1) (n : Nat) : Reads P t yn inI n :=
 (Reads.int ht hc n).map (fun x => x) (fun x hx => ⟨by
  simp [Lit.wf,IntKind.min,IntKind.max,IntKind.signed,IntKind.bits] at hx
  exact hx,rfl⟩)
def inU (n : Int) : Prop := 0 ≤ n ∧ n ≤ 4294967295
theorem qb2 {α : Type} {P : Program} {t el : TypeId} {sz : Nat} {e : α → List PV} {ok : α → Prop} {n : Nat} (ht : P.underlying t = some (.slice el)) (hc : P.cellsOf t = 1) (hsz : P.cellsOf el = sz) (hpos : 0 < sz)
  (h : Reads P el e ok n) : Reads P t (slE sz e) (zw ok) n :=
 ((Reads.slice ht hc hsz hpos h).map (fun x => (⟨x.1 && x.2.isEmpty,x.2⟩ : Sl α)) (fun x hx => ⟨⟨⟨hx.1,by simp⟩,hx.2⟩,by simp [slE,slP,qi5,qfs]⟩)).mono (Nat.le_succ n)
theorem drop_cons {α : Type} {xs : List α} {i : Nat} {x : α} {r : List α} (h : xs.drop i = x :: r) : xs[i]? = some x ∧ xs.drop (i + 1) = r ∧ i < xs.length := by
 have h1 : xs[i]? = some x := by
  have := congrArg (fun l => l[0]?) h
  simpa using this
 have h2 : xs.drop (i + 1) = r := by
  have := congrArg (fun l => l.drop 1) h
  simpa [List.drop_drop] using this
 exact ⟨h1,h2,(List.getElem?_eq_some_iff.1 h1).1⟩
theorem qac {n : Int} (h1 : -9223372036854775808 ≤ n) (h2 : n ≤ 9223372036854775807) : IntKind.i64.wrap n = n := IntWalk.i64_in n ⟨h1,h2⟩
theorem jy {n : Nat} (h : n < 9223372036854775807) : IntKind.i64.wrap ((n : Int) + 1) = ((n + 1 : Nat) : Int) := qac (by omega) (by omega)
theorem zbo (b : Bool) : AV.cells (.pv (.bool b)) = [(.pv (.bool b))] := rfl
theorem zuu (k : IntKind) (n : Int) : AV.cells (.pv (.int k n)) = [(.pv (.int k n))] := rfl
theorem zgz (l : List UInt8) : AV.cells (.pv (.str l)) = [(.pv (.str l))] := rfl
theorem qjz (a : Bool) (b : Nat) (c : List (List PV)) : AV.cells (.pv (.sl a b c)) = [(.pv (.sl a b c))] := rfl
theorem qsd : AV.cells (.pv (.nilptr)) = [(.pv (.nilptr))] := rfl
theorem quq : AV.cells (.pv (.nilfn)) = [(.pv (.nilfn))] := rfl
theorem zcq : AV.cells (.pv (.nilmap)) = [(.pv (.nilmap))] := rfl
theorem x3x : AV.cells (.pv (.nilif)) = [(.pv (.nilif))] := rfl
theorem qut (f : FuncId) : AV.cells (.pv (.fn f)) = [(.pv (.fn f))] := rfl
theorem qy2 (c : List PV) : AV.cells (.pv (.rp c)) = [(.pv (.rp c))] := rfl
theorem zry (c : List PV) : AV.cells (.pv (.agg c)) = c.map .pv := rfl
theorem zh4 (x y : Nat) : AV.cells (.ptr x y) = [(.ptr x y)] := rfl
theorem zod (x y z u : Nat) : AV.cells (.eptr x y z u) = [(.eptr x y z u)] := rfl
theorem qj7 (c : List PV) (x : Nat) : AV.cells (.rptr c x) = [(.rptr c x)] := rfl
theorem z0n (x y z u : Nat) : AV.cells (.row x y z u) = [(.row x y z u)] := rfl
theorem za6 : AV.cells (.zsl) = [(.zsl)] := rfl
theorem zhs (x : Nat) : AV.cells (.map x) = [(.map x)] := rfl
theorem zyq (f : FuncId) (a b : List AV) : AV.cells (.clo f a b) = [(.clo f a b)] := rfl
theorem qtg (l : List AV) : AV.cells (.tup l) = [(.tup l)] := rfl
theorem zyr (c : List AV) : AV.cells (.agg c) = c := rfl
abbrev v_i (n : Int) : AV := .pv (.int .i64 n)
abbrev v_b (b : Bool) : AV := .pv (.bool b)
abbrev v_s (s : Bytes) : AV := .pv (.str s)
abbrev v_g (l : List PV) : AV := .pv (.agg l)
abbrev v_l {α : Type} (k : Nat) (e : α → List PV) (s : Sl α) : AV := .pv (.sl s.nil (szc k s.l) (List.map e s.l))
abbrev v_r {α : Type} (β : Nat) (l : List α) : AV := .row β l.length 0 l.length
abbrev b_x (l : List PV) : Blk := .box (List.map .pv l)
abbrev b_r {α : Type} (k : Nat) (e : α → List PV) (l : List α) : Blk := .row l.isEmpty (szc k l) (List.map e l)
abbrev b_m (m : q8o) : Blk := .map (List.map qcy m.es) m.clock
theorem qlr (n : Int) : v_i n = .pv (.int .i64 n) := rfl
theorem qyx (b : Bool) : v_b b = .pv (.bool b) := rfl
theorem qq5 (s : Bytes) : v_s s = .pv (.str s) := rfl
theorem zuv (l : List PV) : v_g l = .pv (.agg l) := rfl
theorem z0f {α : Type} (k : Nat) (e : α → List PV) (s : Sl α) : v_l k e s = .pv (.sl s.nil (szc k s.l) (List.map e s.l)) := rfl
theorem x19 {α : Type} (β : Nat) (l : List α) : v_r β l = .row β l.length 0 l.length := rfl
theorem z3f (l : List PV) : b_x l = .box (List.map .pv l) := rfl
theorem zzw {α : Type} (k : Nat) (e : α → List PV) (l : List α) : b_r k e l = .row l.isEmpty (szc k l) (List.map e l) := rfl
theorem qv4 (m : q8o) : b_m m = .map (List.map qcy m.es) m.clock := rfl
theorem zux (b : UInt8) : z8 b = [.int .u8 b.toNat] := rfl
theorem x3r (n : Int) : yn n = [.int .i64 n] := rfl
theorem zgr (s : Bytes) : zn s = [.str s] := rfl
theorem qyy (b : Bool) : q8x b = [.bool b] := rfl
theorem z0s (k : IntKind) (n : Int) : kE k n = [.int k n] := rfl
theorem zov {α : Type} (k : Nat) (e : α → List PV) (s : Sl α) : slE k e s = [.sl s.nil (szc k s.l) (List.map e s.l)] := rfl
theorem qrk {α : Type} (e : α → List PV) (s : α × α) : qdo e s = e s.1 ++ e s.2 := rfl
def z7w := PLift.up (And.intro @qlr (And.intro @qyx (And.intro @qq5 (And.intro @zuv (And.intro @z0f (And.intro @x19 (And.intro @z3f (And.intro @zzw (And.intro @qv4 (And.intro @zux (And.intro @x3r (And.intro @zgr (And.intro @qyy (And.intro @z0s (And.intro @zov @qrk)))))))))))))))
section
variable {α β : Type} {r : β} {P : Prop}
theorem bs {o : Option α} {k : α → Option β} (f : ∀ x,o = some x → k x = some r → P) (h : o >>= k = some r) : P := by
 obtain ⟨x,h1,h2⟩ := Option.bind_eq_some_iff.1 h
 exact f x h1 h2
theorem it {b : Bool} {p q : Option β} (f : b = true → p = some r → P) (g : b = false → q = some r → P) (h : (if b = true then p else q) = some r) : P := by
 cases b
 ·exact g rfl h
 ·exact f rfl h
theorem gd {Q : Prop} [Decidable Q] {p : Option β} (f : Q → p = some r → P) (h : (if Q then p else none) = some r) : P := by
 split at h
 ·exact f ‹_› h
 ·cases h
variable {l : List α} {i lo hi : Int}
theorem bg {k : α → Option β} (e : α → List PV) (f : ∀ x,ql l i = some x → (∀ kd,jh (.pv (.int kd i)) = some i.toNat) → (List.map e l)[i.toNat]? = some (e x) → (∀ z,(szc z l = z) = True) → k x = some r → P) (h : ql l i >>= k = some r) : P :=
 bs (fun x hx => f x hx (qfh hx) (q9x e hx) (z3h hx)) h
theorem bw {k : α → Option β} (e : α → List PV) (f : ∀ x,ql l i = some x → (∀ kd,jh (.pv (.int kd i)) = some i.toNat) → (List.map e l)[i.toNat]? = some (e x) → (i.toNat < l.length) = True → k x = some r → P) (h : ql l i >>= k = some r) : P :=
 bs (fun x hx => f x hx (qfh hx) (q9x e hx) (qdm hx)) h
variable {k : List α → Option β}
theorem b2 (e : α → List PV) (f : ∀ x,ji l lo hi = some x → (∀ kd,jh (.pv (.int kd lo)) = some lo.toNat) → (∀ kd,jh (.pv (.int kd hi)) = some hi.toNat) → (lo.toNat ≤ hi.toNat) = True → (hi.toNat ≤ l.length) = True → ((List.map e l).take hi.toNat).drop lo.toNat = List.map e x → (∀ z,szc (szc z l) x = szc z x) → k x = some r → P) (h : ji l lo hi >>= k = some r) : P :=
 bs (fun x hx => f x hx (qs2 hx) (qkv hx) (x3s hx) (qj1 hx) (zlv e hx) (z19 hx)) h
variable {s : List α}
theorem rG (k : Nat) (e : α → List PV) (l : List α) (te : TI) (β nx : Nat) (c : List PV) (hk : k = te.size) (hr : zf (l.length + 1) te.bytes = true) :
  q3s te β l.length l.length [c] nx (some (.row l.isEmpty (szc k l) (List.map e l))) = some (.row β (List.map e l ++ [c]).length 0 (List.map e l ++ [c]).length,[(β,.row false k (List.map e l ++ [c]))],nx) := z9l te β k nx e l c [] hk hr
end
section
variable (m : q8o) (k v : Int) (b : Bool) (β : Nat)
end
theorem fF {G : GP} {f : FuncId} {S : Special} {nt : Nat} {ob : Option Code} {ra : Array ResultVar} (hfi : G.fn f = some ⟨nt,ra.toList,ob.get!⟩) {c : Code} {rs : List ResultVar} {H : Heap} {args : List AV} {r : Option (AV × Heap)}
  (hs : S.call f = none := by rfl) (hc : ob = some c := by rfl) (hr : ra = ⟨rs⟩ := by rfl) (hk : jf 0 H = true := by rfl)
  (h : q7n G f H.length rs (cont G (omega G S) f [.code c] (.normal,⟨nk 0 args,H,H.length⟩)) = r := by
   simp (maxSteps := 2000000) (disch := first | assumption | rfl | exact qaj.mk (by kernel_rfl)) only [go_sem,↓reduceIte,Nat.reduceLeDiff,Nat.reduceEqDiff,Nat.reduceLT,Nat.reduceAdd,Nat.reduceSub,Nat.reduceMul,reduceCtorEq,Nat.reducePow, *]) :
  (omega G S).call f args H = r := qu3 hs hfi hc hr hk h
theorem fL {G : GP} {f : FuncId} {S : Special} {fi : FI} (hfi : G.fn f = some fi) {id : Nat} {c : Code} {s : St} {r : Option (Ex × St)}
  (hc : zk fi.body id = some c := by rfl)
  (h : roundEnd G (omega G S) f id s.nx (cont G (omega G S) f [.code c] (.normal,s)) = r := by
   simp (maxSteps := 2000000) (disch := first | assumption | rfl | exact qaj.mk (by kernel_rfl)) only [go_sem,↓reduceIte,Nat.reduceLeDiff,Nat.reduceEqDiff,Nat.reduceLT,Nat.reduceAdd,Nat.reduceSub,Nat.reduceMul,reduceCtorEq,Nat.reducePow, *]) :
  (omega G S).loop f id s = r := qly hfi hc h
def refsOf (H : Heap) : List Nat → List Nat
 | [] => []
 | β :: r => (wu H β).refs ++ refsOf H r
theorem qeq (H : Heap) : ∀ d : List Nat,(d.flatMap fun β => (wu H β).refs) = refsOf H d
 | [] => rfl
 | β :: r => by rw [List.flatMap_cons,qeq H r]; rfl
theorem zna (H : Heap) (d roots : List Nat) : q06 H d roots = match roots,d with
 | [],[] => some ([],[])
 | roots,d => let L := reach H 400 (roots ++ refsOf H d) d
  if q1x roots L && closedIn H L L then some (L,pick H (pos L) 0 L) else none := by
 cases roots <;> cases d <;> first | rfl | simp only [q06,qeq]
theorem z2z (H : Heap) : xz .ptr (.pv .nilptr) H = some true := rfl
theorem zd0 (H : Heap) (β o : Nat) : xz .ptr (.ptr β o) H = some false := rfl
theorem x0j (H : Heap) (c : List PV) (o : Nat) : xz .ptr (.rptr c o) H = some false := rfl
theorem qku (H : Heap) (β ver i o : Nat) : xz .ptr (.eptr β ver i o) H = some false := rfl
theorem zr6 (H : Heap) (c : List PV) : xz .ptr (.pv (.rp c)) H = some false := rfl
theorem x05 (H : Heap) (e : TypeId) (b : Bool) (sz : Nat) (es : List (List PV)) : xz (.slice e) (.pv (.sl b sz es)) H = some b := rfl
theorem qn0 (H : Heap) (e : TypeId) : xz (.slice e) .zsl H = some false := rfl
theorem zqe (H : Heap) (e : TypeId) (β ver off n : Nat) : xz (.slice e) (.row β ver off n) H = match H.get β with | some (.row b _ es) => if ver = es.length then some b else none | _ => none := rfl
theorem zcz (H : Heap) (k e : TypeId) : xz (.map k e) (.pv .nilmap) H = some true := rfl
theorem zdl (H : Heap) (k e : TypeId) (β : Nat) : xz (.map k e) (.map β) H = some false := rfl
theorem zln (H : Heap) : xz .func (.pv .nilfn) H = some true := rfl
theorem zd1 (H : Heap) (f : FuncId) : xz .func (.pv (.fn f)) H = some false := rfl
theorem z9e (H : Heap) (f : FuncId) (a b : List AV) : xz .func (.clo f a b) H = some false := rfl
theorem take_set {α β : Type} (e : α → β) (l : List α) (i : Nat) (x : α) : (List.map e (l.set i x)).take l.length = List.map e (l.set i x) := by
 have h : (l.set i x).length = l.length := List.length_set
 rw [← List.map_take,← h,List.take_length]
end Go.Gm
namespace Go.Gm
open Go
end Go.Gm
