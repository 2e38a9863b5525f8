/-
  The machine, part d.
-/
import Derived.Test.YtaglodpkpggdiaaGreatDoorMac
set_option linter.unusedSimpArgs false
set_option linter.unusedVariables false
namespace Go.Gm
open Go
abbrev Bytes := List UInt8
structure Sl (α : Type) where
 nil : Bool
 l : List α
 deriving Inhabited,DecidableEq
def jo (s : Bytes) : List PV := [.str s]
def q1s (n : Int) : List PV := [.int .i64 n]
def kE (k : IntKind) (n : Int) : List PV := [.int k n]
def qhq (b : Bool) : List PV := [.bool b]
def qo (b : UInt8) : List PV := [.int .u8 b.toNat]
def slE {α : Type} (k : Nat) (e : α → List PV) (s : Sl α) : List PV := [.sl s.nil (szc k s.l) (List.map e s.l)]
def qbw {α : Type} (e : α → List PV) (s : α × α) : List PV := e s.1 ++ e s.2
abbrev Dum : Prop := ∀ x : Bool,(x && true) = x
def zb {α : Type} (l : List α) (i : Int) : Option α := if 0 ≤ i then l[i.toNat]? else none
def jg {α : Type} (l : List α) (lo hi : Int) : Option (List α) := if (0 ≤ lo ∧ 0 ≤ hi) ∧ (lo.toNat ≤ hi.toNat ∧ hi.toNat ≤ l.length) then some ((l.take hi.toNat).drop lo.toNat) else none
def yn {α : Type} (l : List α) (hi : Int) : Option (List α) := if 0 ≤ hi ∧ hi.toNat ≤ l.length then some (l.take hi.toNat) else none
def u8 (n : Int) : UInt8 := UInt8.ofNat n.toNat
section
variable {α : Type} {l : List α} {i lo hi : Int} {x : α} {r : List α}
theorem qbv (h : zb l i = some x) (k : IntKind) : xw (.pv (.int k i)) = some i.toNat := by
 unfold zb at h; split at h
 ·rename_i h0; simp [xw,h0]
 ·cases h
theorem qbe (h : zb l i = some x) : l[i.toNat]? = some x := by
 unfold zb at h; split at h
 ·exact h
 ·cases h
theorem qeg {β : Type} (e : α → β) (h : zb l i = some x) : (List.map e l)[i.toNat]? = some (e x) := by simp [qbe h]
theorem z3a (h : zb l i = some x) (k : Nat) : szc k l = k := by
 have := qbe h; cases l <;> simp_all [szc]
theorem zbw (h : zb l i = some x) (k : Nat) : (szc k l = k) = True := by simp [z3a h]
theorem z5a (h : zb l i = some x) : (i.toNat < l.length) = True := by
 have := qbe h; simp only [eq_iff_iff,iff_true]; exact (List.getElem?_eq_some_iff.1 this).1
theorem z3w (h : jg l lo hi = some r) (k : IntKind) : xw (.pv (.int k lo)) = some lo.toNat := by
 unfold jg at h; split at h
 ·rename_i h0; simp [xw,h0.1.1]
 ·cases h
theorem qpd (h : jg l lo hi = some r) (k : IntKind) : xw (.pv (.int k hi)) = some hi.toNat := by
 unfold jg at h; split at h
 ·rename_i h0; simp [xw,h0.1.2]
 ·cases h
theorem zjr (h : jg l lo hi = some r) : (lo.toNat ≤ hi.toNat) = True := by
 unfold jg at h; split at h
 ·rename_i h0; simp [h0.2.1]
 ·cases h
theorem qre (h : jg l lo hi = some r) : (hi.toNat ≤ l.length) = True := by
 unfold jg at h; split at h
 ·rename_i h0; simp [h0.2.2]
 ·cases h
theorem qh2 (h : jg l lo hi = some r) : (l.take hi.toNat).drop lo.toNat = r := by
 unfold jg at h; split at h <;> simp_all
theorem zuh (h : yn l hi = some r) (k : IntKind) : xw (.pv (.int k hi)) = some hi.toNat := by
 unfold yn at h; split at h
 ·rename_i h0; simp [xw,h0.1]
 ·cases h
theorem qsu (h : yn l hi = some r) : (hi.toNat ≤ l.length) = True := by
 unfold yn at h; split at h
 ·rename_i h0; simp [h0.2]
 ·cases h
theorem z9s (h : yn l hi = some r) : l.take hi.toNat = r := by
 unfold yn at h; split at h <;> simp_all
theorem qpq {β : Type} (e : α → β) (h : jg l lo hi = some r) : ((List.map e l).take hi.toNat).drop lo.toNat = List.map e r := by rw [← List.map_take,← List.map_drop,qh2 h]
theorem qv1 (h : jg l lo hi = some r) (k : Nat) : szc (szc k l) r = szc k r := by
 have := qh2 h
 cases r with
 | nil => rfl
 | cons => cases l <;> simp_all [szc]
theorem z2x {β : Type} (k : Nat) (e : α → β) (l : List α) : szc k (List.map e l) = szc k l := by cases l <;> rfl
theorem qmy (k : Nat) (l : List α) : szc (szc k l) l = szc k l := by cases l <;> rfl
theorem q0m (k : Nat) : szc k ([] : List α) = 0 := rfl
theorem qeh (k : Nat) (x : α) (l : List α) : szc k (x :: l) = k := rfl
theorem qfk (k : Nat) (l : List α) (x : α) (r : List α) : szc k (l ++ x :: r) = k := by cases l <;> rfl
theorem qfh (k : Nat) (l : List α) (i : Nat) (x : α) : szc k (l.set i x) = szc k l := by cases l <;> cases i <;> rfl
theorem zfx {β : Type} (e : α → β) (l : List α) : (List.map e l).isEmpty = l.isEmpty := by cases l <;> rfl
theorem qcf (l : List α) (x : α) (r : List α) : (l ++ x :: r).isEmpty = false := by cases l <;> rfl
theorem qi0 (l : List α) (i : Nat) (x : α) : (l.set i x).isEmpty = l.isEmpty := by cases l <;> cases i <;> rfl
theorem qci (x : α) (l : List α) : (x :: l).isEmpty = false := rfl
theorem qfx : ([] : List α).isEmpty = true := rfl
theorem q4l {β : Type} (k : Nat) (e : α → β) (l : List α) : (szc k l = k ∨ List.map e l = []) = True := by cases l <;> simp [szc]
theorem take_len {β : Type} (e : α → β) (l : List α) : (List.map e l).take l.length = List.map e l := by rw [← List.map_take,List.take_length]
theorem qf9 {β : Type} (e : α → β) (l r : List α) : List.map e l ++ List.map e r = List.map e (l ++ r) := by simp
theorem qsi (s : Bytes) : List.map (fun b => [PV.int .u8 (b.toNat : Int)]) s = List.map qo s := rfl
theorem bytesOf_map : ∀ s : Bytes,bytesOf (List.map qo s) = some s
 | [] => rfl
 | b :: s => by simp [qo,bytesOf,bytesOf_map s]
theorem gu (b : UInt8) : u8 (b.toNat : Int) = b := by simp [u8]
theorem uw (n : Int) : ((u8 (IntKind.u8.wrap n)).toNat : Int) = IntKind.u8.wrap n := by
 have h : 0 ≤ IntKind.u8.wrap n ∧ IntKind.u8.wrap n < 256 := by
  simp only [IntKind.wrap,IntKind.bits,IntKind.signed]
  constructor
  ·simp; omega
  ·simp; omega
 simp only [u8,UInt8.toNat_ofNat']
 omega
theorem zr5 : List.range 1 = [0] := rfl
theorem zb2 : List.range 2 = [0,1] := rfl
theorem zyh : List.range 3 = [0,1,2] := rfl
theorem qqu : List.range 4 = [0,1,2,3] := rfl
theorem zns : List.range 5 = [0,1,2,3,4] := rfl
theorem zf8 : List.range 6 = [0,1,2,3,4,5] := rfl
def q2s (te : TI) (β L n : Nat) (src : List (List PV)) (nx : Nat) : Option Blk → Option Eff
 | some (.row true _ es) => if L = es.length ∧ n = 0 then wu te (.row β L 0 n) src β nx nx else none
 | some (.row false sz es) =>
  if L = es.length ∧ sz = te.size ∧ zt (n + src.length) te.bytes = true then
   if n = es.length then some (.row β (es ++ src).length 0 (es ++ src).length,[(β,.row false te.size (es ++ src))],nx)
   else some (.row β (es.take n ++ src ++ es.drop (n + src.length)).length 0 (n + src.length),[(β,.row false te.size (es.take n ++ src ++ es.drop (n + src.length)))],nx)
  else none
 | _ => none
theorem zos (te : TI) (β L n nx sz : Nat) (es src : List (List PV)) : q2s te β L n src nx (some (.row false sz es)) =
  if L = es.length ∧ sz = te.size ∧ zt (n + src.length) te.bytes = true then
   if n = es.length then some (.row β (es ++ src).length 0 (es ++ src).length,[(β,.row false te.size (es ++ src))],nx)
   else some (.row β (es.take n ++ src ++ es.drop (n + src.length)).length 0 (n + src.length),[(β,.row false te.size (es.take n ++ src ++ es.drop (n + src.length)))],nx)
  else none := rfl
theorem zdn (te : TI) (β L n nx sz : Nat) (es src : List (List PV)) : q2s te β L n src nx (some (.row true sz es)) = if L = es.length ∧ n = 0 then wu te (.row β L 0 n) src β nx nx else none := rfl
def q8u (te : TI) (β L n : Nat) (H : Heap) (nx : Nat) (d : Option Eff) : Option (Nat × List (List PV)) → Option Eff
 | none => d
 | some (xsz,src) => if (xsz = te.size ∨ src = []) ∧ 0 < te.size then q2s te β L n src nx (H.get β) else none
theorem zhp (te : TI) (β L n : Nat) (x : AV) (H : Heap) (nx : Nat) : wo te (.row β L 0 n) x H nx = q8u te β L n H nx (pz te (.row β L 0 n) x H nx) (jv x H) := by
 unfold wo q8u
 cases jv x H with
 | none => rfl
 | some p =>
  obtain ⟨xsz,src⟩ := p
  simp only
  split
  ·unfold q2s
   cases H.get β with
   | none => rfl
   | some b =>
    cases b with
    | row isnil sz es => cases isnil <;> simp
    | _ => rfl
  ·rfl
theorem z0f (te : TI) (sz : Nat) (es : List (List PV)) (x : AV) (H : Heap) (nx : Nat) : wo te (.pv (.sl true sz es)) x H nx =
  match jv x H with
  | none => pz te (.pv (.sl true sz es)) x H nx
  | some (xsz,src) => if (xsz = te.size ∨ src = []) ∧ 0 < te.size then wu te (.pv (.sl true sz es)) src nx nx (nx + 1) else none := rfl
theorem qze (te : TI) (x : AV) (H : Heap) (nx : Nat) : wo te .zsl x H nx =
  match jv x H with
  | none => pz te .zsl x H nx
  | some (xsz,src) => if (xsz = te.size ∨ src = []) ∧ 0 < te.size then wu te .zsl src nx nx (nx + 1) else none := rfl
theorem zc2 (te : TI) (β k nx : Nat) (e : α → List PV) (l : List α) (c : List PV) (src : List (List PV)) (hk : k = te.size) (hr : zt (l.length + (c :: src).length) te.bytes = true) :
  q2s te β l.length l.length (c :: src) nx (some (.row l.isEmpty (szc k l) (List.map e l))) =
   some (.row β (List.map e l ++ c :: src).length 0 (List.map e l ++ c :: src).length,[(β,.row false k (List.map e l ++ c :: src))],nx) := by
 subst hk
 cases l with
 | nil =>
  have hr' : zt (src.length + 1) te.bytes = true := by simpa using hr
  simp [q2s,wu,hr']
 | cons a l =>
  have hr' : zt (l.length + 1 + (src.length + 1)) te.bytes = true := by simpa using hr
  simp [q2s,szc,hr']
end
structure q7s where
 es : List (Int × Int × Nat)
 clock : Nat
 deriving Inhabited
def qds (e : Int × Int × Nat) : PV × PV × Nat := (.int .i64 e.1,.int .i64 e.2.1,e.2.2)
def zi0 (te : TI) (k : PV) (ok : Bool) : Option Blk → Option AV
 | some (.map es _) => match findKey k es 0 with
  | some (some (_,v,_)) => some (if ok then .tup [.pv v,.pv (.bool true)] else .pv v)
  | some none => some (if ok then .tup [.pv (ug te),.pv (.bool false)] else .pv (ug te))
  | none => none
 | _ => none
def zxc (β : Nat) (k v : PV) : Option Blk → Option (List (Nat × Blk))
 | some (.map es clock) => match findKey k es 0 with
  | some (some (i,_,born)) => some [(β,.map (es.set i (k,v,born)) clock)]
  | some none => some [(β,.map (es ++ [(k,v,clock)]) (clock + 1))]
  | none => none
 | _ => none
def qwf (te : TI) (β : Nat) (k : PV) : Option Blk → Option (AV × List (Nat × Blk))
 | some (.map es clock) => match findKey k es 0 with
  | some (some (i,v,born)) => some (.tup [.pv v,.pv (.int .i64 born)],[(β,.map (es.set i (k,v,born)) clock)])
  | some none => some (.tup [.pv (ug te),.pv (.int .i64 clock)],[(β,.map (es ++ [(k,ug te,clock)]) (clock + 1))])
  | none => none
 | _ => none
def qib (β : Nat) (born : Int) (v : PV) : Option Blk → Option (List (Nat × Blk))
 | some (.map es clock) => match q6i born es 0 with
  | some (i,k,b) => some [(β,.map (es.set i (k,v,b)) clock)]
  | none => none
 | _ => none
def zv2 (β : Nat) (k : PV) : Option Blk → Option (List (Nat × Blk))
 | some (.map es clock) => match findKey k es 0 with
  | some (some (i,_,_)) => some [(β,.map (es.eraseIdx i) clock)]
  | some none => some [(β,.map es clock)]
  | none => none
 | _ => none
theorem x0d (tk te : TI) (β : Nat) (k : PV) (ok : Bool) (H : Heap) : q2w tk te (.map β) (.pv k) ok H = if zg tk.td k = true then zi0 te k ok (H.get β) else none := by
 unfold q2w q3r
 simp only
 split
 ·cases H.get β with
  | none => rfl
  | some b => cases b <;> rfl
 ·rfl
theorem zfv (tk : TI) (β : Nat) (k v : PV) (H : Heap) : q0b tk (.map β) (.pv k) v H = if zg tk.td k = true then zxc β k v (H.get β) else none := by
 unfold q0b
 simp only
 split
 ·cases H.get β with
  | none => rfl
  | some b => cases b <;> rfl
 ·rfl
theorem zve (tk te : TI) (β : Nat) (k : PV) (H : Heap) : q19 tk te (.map β) (.pv k) H = if zg tk.td k = true then qwf te β k (H.get β) else none := by
 unfold q19
 simp only
 split
 ·cases H.get β with
  | none => rfl
  | some b => cases b <;> rfl
 ·rfl
theorem qig (β : Nat) (kd : IntKind) (born : Int) (v : PV) (H : Heap) : p8 (.map β) (.pv (.int kd born)) v H = qib β born v (H.get β) := by
 unfold p8
 simp only
 cases H.get β with
 | none => rfl
 | some b => cases b <;> rfl
theorem qtd (tk : TI) (β : Nat) (k : PV) (H : Heap) : q1d tk (.map β) (.pv k) H = if zg tk.td k = true then zv2 β k (H.get β) else none := by
 unfold q1d
 simp only
 split
 ·cases H.get β with
  | none => rfl
  | some b => cases b <;> rfl
 ·rfl
section
variable (b : Bool) (β : Nat) (m : q7s) (k : Int)
end
theorem qv8 {α β : Type} (f : α → β) (a : α) (l : List α) : List.map f (a :: l) = f a :: List.map f l := rfl
theorem quz {α β : Type} (f : α → β) : List.map f ([] : List α) = [] := rfl
theorem zhr {α : Type} : ([] : List α).length = 0 := rfl
theorem ql2 {α : Type} (a : α) (l : List α) : (a :: l).length = l.length + 1 := rfl
theorem qsh {α : Type} (l : List α) (x : α) : (l.length < (l ++ [x]).length) = True := by simp
theorem z8s {α β : Type} (f : α → β) (l : List α) (x : β) : (l.length < (List.map f l ++ [x]).length) = True := by simp
theorem qha {α : Type} (l : List α) (i : Nat) (x : α) : (l.set i x).length = l.length := List.length_set
def zbm := PLift.up (And.intro @qv8 (And.intro @quz (And.intro @zhr (And.intro @ql2 (And.intro @q0m (And.intro @qeh (And.intro @qfk (And.intro @qfh (And.intro @qfx (And.intro @qci (And.intro @qcf (And.intro @qi0 (And.intro @qha (And.intro @gu @uw))))))))))))))
theorem qtg {α : Type} {P : Program} {t : TypeId} {e : α → List PV} {ok : α → Prop} {n : Nat} (h : Reads P t e ok n) : Reads P t e (fun _ => True) n := h.map (fun x => x) (fun _ _ => ⟨trivial,rfl⟩)
def jd {α : Type} (_ : α) : Prop := True
def inI (n : Int) : Prop := -9223372036854775808 ≤ n ∧ n ≤ 9223372036854775807
def jc (s : Bytes) : Prop := s.length ≤ maxLen
def xh {α : Type} (ok : α → Prop) (s : Sl α) : Prop := (s.l.length ≤ maxLen ∧ (s.nil = true → s.l = [])) ∧ ∀ a ∈ s.l,ok a
def inU (n : Int) : Prop := 0 ≤ n ∧ n ≤ 4294967295
theorem drop_cons {α : Type} {xs : List α} {i : Nat} {x : α} {r : List α} (h : xs.drop i = x :: r) : xs[i]? = some x ∧ xs.drop (i + 1) = r ∧ i < xs.length := by
 have h1 : xs[i]? = some x := by
  have := congrArg (fun l => l[0]?) h
  simpa using this
 have h2 : xs.drop (i + 1) = r := by
  have := congrArg (fun l => l.drop 1) h
  simpa [List.drop_drop] using this
 exact ⟨h1,h2,(List.getElem?_eq_some_iff.1 h1).1⟩
theorem q9l {n : Int} (h1 : -9223372036854775808 ≤ n) (h2 : n ≤ 9223372036854775807) : IntKind.i64.wrap n = n := IntWalk.i64_in n ⟨h1,h2⟩
theorem uf {n : Nat} (h : n < 9223372036854775807) : IntKind.i64.wrap ((n : Int) + 1) = ((n + 1 : Nat) : Int) := q9l (by omega) (by omega)
theorem qju (b : Bool) : AV.cells (.pv (.bool b)) = [(.pv (.bool b))] := rfl
theorem zd5 (k : IntKind) (n : Int) : AV.cells (.pv (.int k n)) = [(.pv (.int k n))] := rfl
theorem qrm (l : List UInt8) : AV.cells (.pv (.str l)) = [(.pv (.str l))] := rfl
theorem zdg (a : Bool) (b : Nat) (c : List (List PV)) : AV.cells (.pv (.sl a b c)) = [(.pv (.sl a b c))] := rfl
theorem zuz : AV.cells (.pv (.nilptr)) = [(.pv (.nilptr))] := rfl
theorem zmo : AV.cells (.pv (.nilfn)) = [(.pv (.nilfn))] := rfl
theorem z3p : AV.cells (.pv (.nilmap)) = [(.pv (.nilmap))] := rfl
theorem x1y : AV.cells (.pv (.nilif)) = [(.pv (.nilif))] := rfl
theorem qzn (f : FuncId) : AV.cells (.pv (.fn f)) = [(.pv (.fn f))] := rfl
theorem zuu (c : List PV) : AV.cells (.pv (.rp c)) = [(.pv (.rp c))] := rfl
theorem zxw (c : List PV) : AV.cells (.pv (.agg c)) = c.map .pv := rfl
theorem qq8 (x y : Nat) : AV.cells (.ptr x y) = [(.ptr x y)] := rfl
theorem z6x (x y z u : Nat) : AV.cells (.eptr x y z u) = [(.eptr x y z u)] := rfl
theorem zwq (c : List PV) (x : Nat) : AV.cells (.rptr c x) = [(.rptr c x)] := rfl
theorem zvs (x y z u : Nat) : AV.cells (.row x y z u) = [(.row x y z u)] := rfl
theorem zb4 : AV.cells (.zsl) = [(.zsl)] := rfl
theorem zjv (x : Nat) : AV.cells (.map x) = [(.map x)] := rfl
theorem zza (f : FuncId) (a b : List AV) : AV.cells (.clo f a b) = [(.clo f a b)] := rfl
theorem qu7 (l : List AV) : AV.cells (.tup l) = [(.tup l)] := rfl
theorem qrb (c : List AV) : AV.cells (.agg c) = c := rfl
abbrev v_i (n : Int) : AV := .pv (.int .i64 n)
abbrev v_b (b : Bool) : AV := .pv (.bool b)
abbrev v_s (s : Bytes) : AV := .pv (.str s)
abbrev v_g (l : List PV) : AV := .pv (.agg l)
abbrev v_l {α : Type} (k : Nat) (e : α → List PV) (s : Sl α) : AV := .pv (.sl s.nil (szc k s.l) (List.map e s.l))
abbrev v_r {α : Type} (β : Nat) (l : List α) : AV := .row β l.length 0 l.length
abbrev b_x (l : List PV) : Blk := .box (List.map .pv l)
abbrev b_r {α : Type} (k : Nat) (e : α → List PV) (l : List α) : Blk := .row l.isEmpty (szc k l) (List.map e l)
abbrev b_m (m : q7s) : Blk := .map (List.map qds m.es) m.clock
theorem z4i (n : Int) : v_i n = .pv (.int .i64 n) := rfl
theorem qyq (b : Bool) : v_b b = .pv (.bool b) := rfl
theorem qmv (s : Bytes) : v_s s = .pv (.str s) := rfl
theorem zck (l : List PV) : v_g l = .pv (.agg l) := rfl
theorem zeq {α : Type} (k : Nat) (e : α → List PV) (s : Sl α) : v_l k e s = .pv (.sl s.nil (szc k s.l) (List.map e s.l)) := rfl
theorem zz2 {α : Type} (β : Nat) (l : List α) : v_r β l = .row β l.length 0 l.length := rfl
theorem zzk (l : List PV) : b_x l = .box (List.map .pv l) := rfl
theorem zld {α : Type} (k : Nat) (e : α → List PV) (l : List α) : b_r k e l = .row l.isEmpty (szc k l) (List.map e l) := rfl
theorem x1h (m : q7s) : b_m m = .map (List.map qds m.es) m.clock := rfl
theorem zg1 (b : UInt8) : qo b = [.int .u8 b.toNat] := rfl
theorem qvm (n : Int) : q1s n = [.int .i64 n] := rfl
theorem zvr (s : Bytes) : jo s = [.str s] := rfl
theorem qla (b : Bool) : qhq b = [.bool b] := rfl
theorem qih (k : IntKind) (n : Int) : kE k n = [.int k n] := rfl
theorem zxf {α : Type} (k : Nat) (e : α → List PV) (s : Sl α) : slE k e s = [.sl s.nil (szc k s.l) (List.map e s.l)] := rfl
theorem z0d {α : Type} (e : α → List PV) (s : α × α) : qbw e s = e s.1 ++ e s.2 := rfl
def z07 := PLift.up (And.intro @z4i (And.intro @qyq (And.intro @qmv (And.intro @zck (And.intro @zeq (And.intro @zz2 (And.intro @zzk (And.intro @zld (And.intro @x1h (And.intro @zg1 (And.intro @qvm (And.intro @zvr (And.intro @qla (And.intro @qih (And.intro @zxf @z0d)))))))))))))))
section
variable {α β : Type} {r : β} {P : Prop}
theorem bs {o : Option α} {k : α → Option β} (f : ∀ x,o = some x → k x = some r → P) (h : o >>= k = some r) : P := by
 obtain ⟨x,h1,h2⟩ := Option.bind_eq_some_iff.1 h
 exact f x h1 h2
theorem it {b : Bool} {p q : Option β} (f : b = true → p = some r → P) (g : b = false → q = some r → P) (h : (if b = true then p else q) = some r) : P := by
 cases b
 ·exact g rfl h
 ·exact f rfl h
theorem gd {Q : Prop} [Decidable Q] {p : Option β} (f : Q → p = some r → P) (h : (if Q then p else none) = some r) : P := by
 split at h
 ·exact f ‹_› h
 ·cases h
variable {l : List α} {i lo hi : Int}
theorem bg {k : α → Option β} (e : α → List PV) (f : ∀ x,zb l i = some x → (∀ kd,xw (.pv (.int kd i)) = some i.toNat) → (List.map e l)[i.toNat]? = some (e x) → (∀ z,(szc z l = z) = True) → k x = some r → P) (h : zb l i >>= k = some r) : P :=
 bs (fun x hx => f x hx (qbv hx) (qeg e hx) (zbw hx)) h
theorem bw {k : α → Option β} (e : α → List PV) (f : ∀ x,zb l i = some x → (∀ kd,xw (.pv (.int kd i)) = some i.toNat) → (List.map e l)[i.toNat]? = some (e x) → (i.toNat < l.length) = True → k x = some r → P) (h : zb l i >>= k = some r) : P :=
 bs (fun x hx => f x hx (qbv hx) (qeg e hx) (z5a hx)) h
variable {k : List α → Option β}
theorem b2 (e : α → List PV) (f : ∀ x,jg l lo hi = some x → (∀ kd,xw (.pv (.int kd lo)) = some lo.toNat) → (∀ kd,xw (.pv (.int kd hi)) = some hi.toNat) → (lo.toNat ≤ hi.toNat) = True → (hi.toNat ≤ l.length) = True → ((List.map e l).take hi.toNat).drop lo.toNat = List.map e x → (∀ z,szc (szc z l) x = szc z x) → k x = some r → P) (h : jg l lo hi >>= k = some r) : P :=
 bs (fun x hx => f x hx (z3w hx) (qpd hx) (zjr hx) (qre hx) (qpq e hx) (qv1 hx)) h
theorem bTs (f : ∀ x,yn l hi = some x → (∀ kd,xw (.pv (.int kd hi)) = some hi.toNat) → (hi.toNat ≤ l.length) = True → l.take hi.toNat = x → k x = some r → P) (h : yn l hi >>= k = some r) : P :=
 bs (fun x hx => f x hx (zuh hx) (qsu hx) (z9s hx)) h
variable {s : List α}
theorem rG (k : Nat) (e : α → List PV) (l : List α) (te : TI) (β nx : Nat) (c : List PV) (hk : k = te.size) (hr : zt (l.length + 1) te.bytes = true) :
  q2s te β l.length l.length [c] nx (some (.row l.isEmpty (szc k l) (List.map e l))) = some (.row β (List.map e l ++ [c]).length 0 (List.map e l ++ [c]).length,[(β,.row false k (List.map e l ++ [c]))],nx) := zc2 te β k nx e l c [] hk hr
end
section
variable (m : q7s) (k v : Int) (b : Bool) (β : Nat)
end
theorem fF {G : GP} {f : FuncId} {S : Special} {nt : Nat} {ob : Option Code} {ra : Array ResultVar} (hfi : G.fn f = some ⟨nt,ra.toList,ob.get!⟩) {c : Code} {rs : List ResultVar} {H : Heap} {args : List AV} {r : Option (AV × Heap)}
  (hs : S.call f = none := by rfl) (hc : ob = some c := by rfl) (hr : ra = ⟨rs⟩ := by rfl) (hk : jb 0 H = true := by rfl)
  (h : q73 G f H.length rs (cont G (omega G S) f [.code c] (.normal,⟨uo 0 args,H,H.length⟩)) = r := by
   simp (maxSteps := 2000000) (disch := first | assumption | rfl | exact qbm.mk (by kernel_rfl)) only [go_sem,↓reduceIte,Nat.reduceLeDiff,Nat.reduceEqDiff,Nat.reduceLT,Nat.reduceAdd,Nat.reduceSub,Nat.reduceMul,reduceCtorEq,Nat.reducePow, *]) :
  (omega G S).call f args H = r := zg7 hs hfi hc hr hk h
theorem fL {G : GP} {f : FuncId} {S : Special} {fi : FI} (hfi : G.fn f = some fi) {id : Nat} {c : Code} {s : St} {r : Option (Ex × St)}
  (hc : zi fi.body id = some c := by rfl)
  (h : roundEnd G (omega G S) f id s.nx (cont G (omega G S) f [.code c] (.normal,s)) = r := by
   simp (maxSteps := 2000000) (disch := first | assumption | rfl | exact qbm.mk (by kernel_rfl)) only [go_sem,↓reduceIte,Nat.reduceLeDiff,Nat.reduceEqDiff,Nat.reduceLT,Nat.reduceAdd,Nat.reduceSub,Nat.reduceMul,reduceCtorEq,Nat.reducePow, *]) :
  (omega G S).loop f id s = r := z4z hfi hc h
def refsOf (H : Heap) : List Nat → List Nat
 | [] => []
 | β :: r => (wh H β).refs ++ refsOf H r
theorem qgu (H : Heap) : ∀ d : List Nat,(d.flatMap fun β => (wh H β).refs) = refsOf H d
 | [] => rfl
 | β :: r => by rw [List.flatMap_cons,qgu H r]; rfl
theorem z11 (H : Heap) (d roots : List Nat) : q0c H d roots = match roots,d with
 | [],[] => some ([],[])
 | roots,d => let L := reach H 400 (roots ++ refsOf H d) d
  if q2b roots L && closedIn H L L then some (L,pick H (pos L) 0 L) else none := by
 cases roots <;> cases d <;> first | rfl | simp only [q0c,qgu]
theorem qqp (H : Heap) : xx .ptr (.pv .nilptr) H = some true := rfl
theorem ql5 (H : Heap) (β o : Nat) : xx .ptr (.ptr β o) H = some false := rfl
theorem zec (H : Heap) (c : List PV) (o : Nat) : xx .ptr (.rptr c o) H = some false := rfl
theorem zxq (H : Heap) (β ver i o : Nat) : xx .ptr (.eptr β ver i o) H = some false := rfl
theorem z4n (H : Heap) (c : List PV) : xx .ptr (.pv (.rp c)) H = some false := rfl
theorem znc (H : Heap) (e : TypeId) (b : Bool) (sz : Nat) (es : List (List PV)) : xx (.slice e) (.pv (.sl b sz es)) H = some b := rfl
theorem qky (H : Heap) (e : TypeId) : xx (.slice e) .zsl H = some false := rfl
theorem zlr (H : Heap) (e : TypeId) (β ver off n : Nat) : xx (.slice e) (.row β ver off n) H = match H.get β with | some (.row b _ es) => if ver = es.length then some b else none | _ => none := rfl
theorem zgx (H : Heap) (k e : TypeId) : xx (.map k e) (.pv .nilmap) H = some true := rfl
theorem qs4 (H : Heap) (k e : TypeId) (β : Nat) : xx (.map k e) (.map β) H = some false := rfl
theorem qmo (H : Heap) : xx .func (.pv .nilfn) H = some true := rfl
theorem zm9 (H : Heap) (f : FuncId) : xx .func (.pv (.fn f)) H = some false := rfl
theorem zjf (H : Heap) (f : FuncId) (a b : List AV) : xx .func (.clo f a b) H = some false := rfl
theorem take_set {α β : Type} (e : α → β) (l : List α) (i : Nat) (x : α) : (List.map e (l.set i x)).take l.length = List.map e (l.set i x) := by
 have h : (l.set i x).length = l.length := List.length_set
 rw [← List.map_take,← h,List.take_length]
end Go.Gm
namespace Go.Gm
open Go
end Go.Gm
