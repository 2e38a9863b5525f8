/-
  The machine, part d.
-/
import Derived.Test.YthikhbpbpphaaaaGreatDoorRac
set_option linter.unusedSimpArgs false
set_option linter.unusedVariables false
namespace Go.Gm
open Go
abbrev Bytes := List UInt8
structure Sl (α : Type) where
 nil : Bool
 l : List α
 deriving Inhabited,DecidableEq
def jl (s : Bytes) : List PV := [.str s]
def q40 (n : Int) : List PV := [.int .i64 n]
def kE (k : IntKind) (n : Int) : List PV := [.int k n]
def q9q (b : Bool) : List PV := [.bool b]
def qw (b : UInt8) : List PV := [.int .u8 b.toNat]
def slE {α : Type} (k : Nat) (e : α → List PV) (s : Sl α) : List PV := [.sl s.nil (szc k s.l) (List.map e s.l)]
def qb2 {α : Type} (e : α → List PV) (s : α × α) : List PV := e s.1 ++ e s.2
abbrev Dum : Prop := ∀ x : Bool,(x && true) = x
def za {α : Type} (l : List α) (i : Int) : Option α := if 0 ≤ i then l[i.toNat]? else none
def xk {α : Type} (l : List α) (lo hi : Int) : Option (List α) := if (0 ≤ lo ∧ 0 ≤ hi) ∧ (lo.toNat ≤ hi.toNat ∧ hi.toNat ≤ l.length) then some ((l.take hi.toNat).drop lo.toNat) else none
def u8 (n : Int) : UInt8 := UInt8.ofNat n.toNat
section
variable {α : Type} {l : List α} {i lo hi : Int} {x : α} {r : List α}
theorem z2z (h : za l i = some x) (k : IntKind) : jh (.pv (.int k i)) = some i.toNat := by
 unfold za at h; split at h
 ·rename_i h0; simp [jh,h0]
 ·cases h
theorem qe4 (h : za l i = some x) : l[i.toNat]? = some x := by
 unfold za at h; split at h
 ·exact h
 ·cases h
theorem qnp {β : Type} (e : α → β) (h : za l i = some x) : (List.map e l)[i.toNat]? = some (e x) := by simp [qe4 h]
theorem ql9 (h : za l i = some x) (k : Nat) : szc k l = k := by
 have := qe4 h; cases l <;> simp_all [szc]
theorem qqo (h : za l i = some x) (k : Nat) : (szc k l = k) = True := by simp [ql9 h]
theorem qi4 (h : xk l lo hi = some r) (k : IntKind) : jh (.pv (.int k lo)) = some lo.toNat := by
 unfold xk at h; split at h
 ·rename_i h0; simp [jh,h0.1.1]
 ·cases h
theorem qnx (h : xk l lo hi = some r) (k : IntKind) : jh (.pv (.int k hi)) = some hi.toNat := by
 unfold xk at h; split at h
 ·rename_i h0; simp [jh,h0.1.2]
 ·cases h
theorem zd9 (h : xk l lo hi = some r) : (lo.toNat ≤ hi.toNat) = True := by
 unfold xk at h; split at h
 ·rename_i h0; simp [h0.2.1]
 ·cases h
theorem qzp (h : xk l lo hi = some r) : (hi.toNat ≤ l.length) = True := by
 unfold xk at h; split at h
 ·rename_i h0; simp [h0.2.2]
 ·cases h
theorem qct (h : xk l lo hi = some r) : (l.take hi.toNat).drop lo.toNat = r := by
 unfold xk at h; split at h <;> simp_all
theorem qt2 {β : Type} (e : α → β) (h : xk l lo hi = some r) : ((List.map e l).take hi.toNat).drop lo.toNat = List.map e r := by rw [← List.map_take,← List.map_drop,qct h]
theorem qxz (h : xk l lo hi = some r) (k : Nat) : szc (szc k l) r = szc k r := by
 have := qct h
 cases r with
 | nil => rfl
 | cons => cases l <;> simp_all [szc]
theorem qcz {β : Type} (k : Nat) (e : α → β) (l : List α) : szc k (List.map e l) = szc k l := by cases l <;> rfl
theorem zi8 (k : Nat) (l : List α) : szc (szc k l) l = szc k l := by cases l <;> rfl
theorem wy (k : Nat) : szc k ([] : List α) = 0 := rfl
theorem qem (k : Nat) (x : α) (l : List α) : szc k (x :: l) = k := rfl
theorem qaf (k : Nat) (l : List α) (x : α) (r : List α) : szc k (l ++ x :: r) = k := by cases l <;> rfl
theorem qcr (k : Nat) (l : List α) (i : Nat) (x : α) : szc k (l.set i x) = szc k l := by cases l <;> cases i <;> rfl
theorem qbl {β : Type} (e : α → β) (l : List α) : (List.map e l).isEmpty = l.isEmpty := by cases l <;> rfl
theorem q9f (l : List α) (x : α) (r : List α) : (l ++ x :: r).isEmpty = false := by cases l <;> rfl
theorem qcc (l : List α) (i : Nat) (x : α) : (l.set i x).isEmpty = l.isEmpty := by cases l <;> cases i <;> rfl
theorem qe8 (x : α) (l : List α) : (x :: l).isEmpty = false := rfl
theorem qed : ([] : List α).isEmpty = true := rfl
theorem q2h {β : Type} (k : Nat) (e : α → β) (l : List α) : (szc k l = k ∨ List.map e l = []) = True := by cases l <;> simp [szc]
theorem take_len {β : Type} (e : α → β) (l : List α) : (List.map e l).take l.length = List.map e l := by rw [← List.map_take,List.take_length]
theorem zd0 (s : Bytes) : List.map (fun b => [PV.int .u8 (b.toNat : Int)]) s = List.map qw s := rfl
theorem bytesOf_map : ∀ s : Bytes,bytesOf (List.map qw s) = some s
 | [] => rfl
 | b :: s => by simp [qw,bytesOf,bytesOf_map s]
theorem wz (b : UInt8) : u8 (b.toNat : Int) = b := by simp [u8]
theorem vg (n : Int) : ((u8 (IntKind.u8.wrap n)).toNat : Int) = IntKind.u8.wrap n := by
 have h : 0 ≤ IntKind.u8.wrap n ∧ IntKind.u8.wrap n < 256 := by
  simp only [IntKind.wrap,IntKind.bits,IntKind.signed]
  constructor
  ·simp; omega
  ·simp; omega
 simp only [u8,UInt8.toNat_ofNat']
 omega
theorem zhi : List.range 1 = [0] := rfl
theorem z9m : List.range 2 = [0,1] := rfl
theorem z90 : List.range 3 = [0,1,2] := rfl
theorem qzj : List.range 4 = [0,1,2,3] := rfl
theorem qob : List.range 5 = [0,1,2,3,4] := rfl
theorem qqp : List.range 6 = [0,1,2,3,4,5] := rfl
def q2c (te : TI) (β L n : Nat) (src : List (List PV)) (nx : Nat) : Option Blk → Option Eff
 | some (.row true _ es) => if L = es.length ∧ n = 0 then kr te (.row β L 0 n) src β nx nx else none
 | some (.row false sz es) =>
  if L = es.length ∧ sz = te.size ∧ zo (n + src.length) te.bytes = true then
   if n = es.length then some (.row β (es ++ src).length 0 (es ++ src).length,[(β,.row false te.size (es ++ src))],nx)
   else some (.row β (es.take n ++ src ++ es.drop (n + src.length)).length 0 (n + src.length),[(β,.row false te.size (es.take n ++ src ++ es.drop (n + src.length)))],nx)
  else none
 | _ => none
theorem qh2 (te : TI) (β L n nx sz : Nat) (es src : List (List PV)) : q2c te β L n src nx (some (.row false sz es)) =
  if L = es.length ∧ sz = te.size ∧ zo (n + src.length) te.bytes = true then
   if n = es.length then some (.row β (es ++ src).length 0 (es ++ src).length,[(β,.row false te.size (es ++ src))],nx)
   else some (.row β (es.take n ++ src ++ es.drop (n + src.length)).length 0 (n + src.length),[(β,.row false te.size (es.take n ++ src ++ es.drop (n + src.length)))],nx)
  else none := rfl
theorem zh9 (te : TI) (β L n nx sz : Nat) (es src : List (List PV)) : q2c te β L n src nx (some (.row true sz es)) = if L = es.length ∧ n = 0 then kr te (.row β L 0 n) src β nx nx else none := rfl
def q6y (te : TI) (β L n : Nat) (H : Heap) (nx : Nat) (d : Option Eff) : Option (Nat × List (List PV)) → Option Eff
 | none => d
 | some (xsz,src) => if (xsz = te.size ∨ src = []) ∧ 0 < te.size then q2c te β L n src nx (H.get β) else none
theorem qna (te : TI) (β L n : Nat) (x : AV) (H : Heap) (nx : Nat) : kg te (.row β L 0 n) x H nx = q6y te β L n H nx (ma te (.row β L 0 n) x H nx) (je x H) := by
 unfold kg q6y
 cases je x H with
 | none => rfl
 | some p =>
  obtain ⟨xsz,src⟩ := p
  simp only
  split
  ·unfold q2c
   cases H.get β with
   | none => rfl
   | some b =>
    cases b with
    | row isnil sz es => cases isnil <;> simp
    | _ => rfl
  ·rfl
theorem qlo (te : TI) (sz : Nat) (es : List (List PV)) (x : AV) (H : Heap) (nx : Nat) : kg te (.pv (.sl true sz es)) x H nx =
  match je x H with
  | none => ma te (.pv (.sl true sz es)) x H nx
  | some (xsz,src) => if (xsz = te.size ∨ src = []) ∧ 0 < te.size then kr te (.pv (.sl true sz es)) src nx nx (nx + 1) else none := rfl
theorem qhm (te : TI) (x : AV) (H : Heap) (nx : Nat) : kg te .zsl x H nx =
  match je x H with
  | none => ma te .zsl x H nx
  | some (xsz,src) => if (xsz = te.size ∨ src = []) ∧ 0 < te.size then kr te .zsl src nx nx (nx + 1) else none := rfl
theorem qn9 (te : TI) (β k nx : Nat) (e : α → List PV) (l : List α) (c : List PV) (src : List (List PV)) (hk : k = te.size) (hr : zo (l.length + (c :: src).length) te.bytes = true) :
  q2c te β l.length l.length (c :: src) nx (some (.row l.isEmpty (szc k l) (List.map e l))) =
   some (.row β (List.map e l ++ c :: src).length 0 (List.map e l ++ c :: src).length,[(β,.row false k (List.map e l ++ c :: src))],nx) := by
 subst hk
 cases l with
 | nil =>
  have hr' : zo (src.length + 1) te.bytes = true := by simpa using hr
  simp [q2c,kr,hr']
 | cons a l =>
  have hr' : zo (l.length + 1 + (src.length + 1)) te.bytes = true := by simpa using hr
  simp [q2c,szc,hr']
end
structure q6l where
 es : List (Int × Int × Nat)
 clock : Nat
 deriving Inhabited
def qet (e : Int × Int × Nat) : PV × PV × Nat := (.int .i64 e.1,.int .i64 e.2.1,e.2.2)
def zj1 (te : TI) (k : PV) (ok : Bool) : Option Blk → Option AV
 | some (.map es _) => match findKey k es 0 with
  | some (some (_,v,_)) => some (if ok then .tup [.pv v,.pv (.bool true)] else .pv v)
  | some none => some (if ok then .tup [.pv (yh te),.pv (.bool false)] else .pv (yh te))
  | none => none
 | _ => none
def zl0 (β : Nat) (k v : PV) : Option Blk → Option (List (Nat × Blk))
 | some (.map es clock) => match findKey k es 0 with
  | some (some (i,_,born)) => some [(β,.map (es.set i (k,v,born)) clock)]
  | some none => some [(β,.map (es ++ [(k,v,clock)]) (clock + 1))]
  | none => none
 | _ => none
def qh0 (te : TI) (β : Nat) (k : PV) : Option Blk → Option (AV × List (Nat × Blk))
 | some (.map es clock) => match findKey k es 0 with
  | some (some (i,v,born)) => some (.tup [.pv v,.pv (.int .i64 born)],[(β,.map (es.set i (k,v,born)) clock)])
  | some none => some (.tup [.pv (yh te),.pv (.int .i64 clock)],[(β,.map (es ++ [(k,yh te,clock)]) (clock + 1))])
  | none => none
 | _ => none
def qjb (β : Nat) (born : Int) (v : PV) : Option Blk → Option (List (Nat × Blk))
 | some (.map es clock) => match q4u born es 0 with
  | some (i,k,b) => some [(β,.map (es.set i (k,v,b)) clock)]
  | none => none
 | _ => none
def qrl (β : Nat) (k : PV) : Option Blk → Option (List (Nat × Blk))
 | some (.map es clock) => match findKey k es 0 with
  | some (some (i,_,_)) => some [(β,.map (es.eraseIdx i) clock)]
  | some none => some [(β,.map es clock)]
  | none => none
 | _ => none
theorem zbu (tk te : TI) (β : Nat) (k : PV) (ok : Bool) (H : Heap) : q2j tk te (.map β) (.pv k) ok H = if ze tk.td k = true then zj1 te k ok (H.get β) else none := by
 unfold q2j q38
 simp only
 split
 ·cases H.get β with
  | none => rfl
  | some b => cases b <;> rfl
 ·rfl
theorem zd8 (tk : TI) (β : Nat) (k v : PV) (H : Heap) : bq tk (.map β) (.pv k) v H = if ze tk.td k = true then zl0 β k v (H.get β) else none := by
 unfold bq
 simp only
 split
 ·cases H.get β with
  | none => rfl
  | some b => cases b <;> rfl
 ·rfl
theorem qsy (tk te : TI) (β : Nat) (k : PV) (H : Heap) : q03 tk te (.map β) (.pv k) H = if ze tk.td k = true then qh0 te β k (H.get β) else none := by
 unfold q03
 simp only
 split
 ·cases H.get β with
  | none => rfl
  | some b => cases b <;> rfl
 ·rfl
theorem zcz (β : Nat) (kd : IntKind) (born : Int) (v : PV) (H : Heap) : nu (.map β) (.pv (.int kd born)) v H = qjb β born v (H.get β) := by
 unfold nu
 simp only
 cases H.get β with
 | none => rfl
 | some b => cases b <;> rfl
theorem qsn (tk : TI) (β : Nat) (k : PV) (H : Heap) : q07 tk (.map β) (.pv k) H = if ze tk.td k = true then qrl β k (H.get β) else none := by
 unfold q07
 simp only
 split
 ·cases H.get β with
  | none => rfl
  | some b => cases b <;> rfl
 ·rfl
section
variable (b : Bool) (β : Nat) (m : q6l) (k : Int)
end
theorem z1w {α β : Type} (f : α → β) (a : α) (l : List α) : List.map f (a :: l) = f a :: List.map f l := rfl
theorem qug {α β : Type} (f : α → β) : List.map f ([] : List α) = [] := rfl
theorem qu4 {α : Type} : ([] : List α).length = 0 := rfl
theorem qsz {α : Type} (a : α) (l : List α) : (a :: l).length = l.length + 1 := rfl
theorem zlg {α : Type} (l : List α) (x : α) : (l.length < (l ++ [x]).length) = True := by simp
theorem z9b {α β : Type} (f : α → β) (l : List α) (x : β) : (l.length < (List.map f l ++ [x]).length) = True := by simp
theorem qai {α : Type} (l : List α) (i : Nat) (x : α) : (l.set i x).length = l.length := List.length_set
def zhp := PLift.up (And.intro @z1w (And.intro @qug (And.intro @qu4 (And.intro @qsz (And.intro @wy (And.intro @qem (And.intro @qaf (And.intro @qcr (And.intro @qed (And.intro @qe8 (And.intro @q9f (And.intro @qcc (And.intro @qai (And.intro @wz @vg))))))))))))))
def xu {α : Type} (_ : α) : Prop := True
theorem qpf {P : Program} {t : TypeId} (ht : P.underlying t = some (.int .u8)) (hc : P.cellsOf t = 1) (n : Nat) : Reads P t qw (fun _ => True) n :=
 (Reads.int ht hc n).map u8 (fun x hx => ⟨trivial,by
  simp [Lit.wf,IntKind.min,IntKind.max,IntKind.signed,IntKind.bits] at hx
  simp only [qw,u8,UInt8.toNat_ofNat',List.cons.injEq,PV.int.injEq,true_and,and_true]
  omega⟩)
theorem zdx {α : Type} {P : Program} {t el : TypeId} {sz : Nat} {e : α → List PV} {ok : α → Prop} {n : Nat} (ht : P.underlying t = some (.slice el)) (hc : P.cellsOf t = 1) (hsz : P.cellsOf el = sz) (hpos : 0 < sz)
  (h : Reads P el e ok n) : Reads P t (slE sz e) (fun _ => True) n :=
 ((Reads.slice ht hc hsz hpos h).map (fun x => (⟨x.1 && x.2.isEmpty,x.2⟩ : Sl α)) (fun x _ => ⟨trivial,by simp [slE,slP,qbl,qcz]⟩)).mono (Nat.le_succ n)
def inI (n : Int) : Prop := -9223372036854775808 ≤ n ∧ n ≤ 9223372036854775807
def j6 (s : Bytes) : Prop := s.length ≤ maxLen
def zw {α : Type} (ok : α → Prop) (s : Sl α) : Prop := (s.l.length ≤ maxLen ∧ (s.nil = true → s.l = [])) ∧ ∀ a ∈ s.l,ok a
theorem drop_cons {α : Type} {xs : List α} {i : Nat} {x : α} {r : List α} (h : xs.drop i = x :: r) : xs[i]? = some x ∧ xs.drop (i + 1) = r ∧ i < xs.length := by
 have h1 : xs[i]? = some x := by
  have := congrArg (fun l => l[0]?) h
  simpa using this
 have h2 : xs.drop (i + 1) = r := by
  have := congrArg (fun l => l.drop 1) h
  simpa [List.drop_drop] using this
 exact ⟨h1,h2,(List.getElem?_eq_some_iff.1 h1).1⟩
theorem qe3 {n : Int} (h1 : -9223372036854775808 ≤ n) (h2 : n ≤ 9223372036854775807) : IntKind.i64.wrap n = n := IntWalk.i64_in n ⟨h1,h2⟩
theorem ji {n : Nat} (h : n < 9223372036854775807) : IntKind.i64.wrap ((n : Int) + 1) = ((n + 1 : Nat) : Int) := qe3 (by omega) (by omega)
theorem zdc (b : Bool) : AV.cells (.pv (.bool b)) = [(.pv (.bool b))] := rfl
theorem qi3 (k : IntKind) (n : Int) : AV.cells (.pv (.int k n)) = [(.pv (.int k n))] := rfl
theorem qip (l : List UInt8) : AV.cells (.pv (.str l)) = [(.pv (.str l))] := rfl
theorem qsx (a : Bool) (b : Nat) (c : List (List PV)) : AV.cells (.pv (.sl a b c)) = [(.pv (.sl a b c))] := rfl
theorem qvg : AV.cells (.pv (.nilptr)) = [(.pv (.nilptr))] := rfl
theorem qsp : AV.cells (.pv (.nilfn)) = [(.pv (.nilfn))] := rfl
theorem qxd : AV.cells (.pv (.nilmap)) = [(.pv (.nilmap))] := rfl
theorem z2d : AV.cells (.pv (.nilif)) = [(.pv (.nilif))] := rfl
theorem qf5 (f : FuncId) : AV.cells (.pv (.fn f)) = [(.pv (.fn f))] := rfl
theorem zfl (c : List PV) : AV.cells (.pv (.rp c)) = [(.pv (.rp c))] := rfl
theorem zjv (c : List PV) : AV.cells (.pv (.agg c)) = c.map .pv := rfl
theorem qyt (x y : Nat) : AV.cells (.ptr x y) = [(.ptr x y)] := rfl
theorem zek (x y z u : Nat) : AV.cells (.eptr x y z u) = [(.eptr x y z u)] := rfl
theorem zi6 (c : List PV) (x : Nat) : AV.cells (.rptr c x) = [(.rptr c x)] := rfl
theorem qxb (x y z u : Nat) : AV.cells (.row x y z u) = [(.row x y z u)] := rfl
theorem zla : AV.cells (.zsl) = [(.zsl)] := rfl
theorem z18 (x : Nat) : AV.cells (.map x) = [(.map x)] := rfl
theorem qx5 (f : FuncId) (a b : List AV) : AV.cells (.clo f a b) = [(.clo f a b)] := rfl
theorem zfd (l : List AV) : AV.cells (.tup l) = [(.tup l)] := rfl
theorem zf3 (c : List AV) : AV.cells (.agg c) = c := rfl
abbrev v_i (n : Int) : AV := .pv (.int .i64 n)
abbrev v_b (b : Bool) : AV := .pv (.bool b)
abbrev v_s (s : Bytes) : AV := .pv (.str s)
abbrev v_g (l : List PV) : AV := .pv (.agg l)
abbrev v_l {α : Type} (k : Nat) (e : α → List PV) (s : Sl α) : AV := .pv (.sl s.nil (szc k s.l) (List.map e s.l))
abbrev v_r {α : Type} (β : Nat) (l : List α) : AV := .row β l.length 0 l.length
abbrev b_x (l : List PV) : Blk := .box (List.map .pv l)
abbrev b_r {α : Type} (k : Nat) (e : α → List PV) (l : List α) : Blk := .row l.isEmpty (szc k l) (List.map e l)
abbrev b_m (m : q6l) : Blk := .map (List.map qet m.es) m.clock
theorem qpl (n : Int) : v_i n = .pv (.int .i64 n) := rfl
theorem z9k (b : Bool) : v_b b = .pv (.bool b) := rfl
theorem zbw (s : Bytes) : v_s s = .pv (.str s) := rfl
theorem qt3 (l : List PV) : v_g l = .pv (.agg l) := rfl
theorem qxo {α : Type} (k : Nat) (e : α → List PV) (s : Sl α) : v_l k e s = .pv (.sl s.nil (szc k s.l) (List.map e s.l)) := rfl
theorem zgw {α : Type} (β : Nat) (l : List α) : v_r β l = .row β l.length 0 l.length := rfl
theorem z1x (l : List PV) : b_x l = .box (List.map .pv l) := rfl
theorem qio {α : Type} (k : Nat) (e : α → List PV) (l : List α) : b_r k e l = .row l.isEmpty (szc k l) (List.map e l) := rfl
theorem qqk (m : q6l) : b_m m = .map (List.map qet m.es) m.clock := rfl
theorem qv8 (b : UInt8) : qw b = [.int .u8 b.toNat] := rfl
theorem qg8 (n : Int) : q40 n = [.int .i64 n] := rfl
theorem z1y (s : Bytes) : jl s = [.str s] := rfl
theorem qfd (b : Bool) : q9q b = [.bool b] := rfl
theorem qik (k : IntKind) (n : Int) : kE k n = [.int k n] := rfl
theorem qjq {α : Type} (k : Nat) (e : α → List PV) (s : Sl α) : slE k e s = [.sl s.nil (szc k s.l) (List.map e s.l)] := rfl
theorem qx0 {α : Type} (e : α → List PV) (s : α × α) : qb2 e s = e s.1 ++ e s.2 := rfl
def qgd := PLift.up (And.intro @qpl (And.intro @z9k (And.intro @zbw (And.intro @qt3 (And.intro @qxo (And.intro @zgw (And.intro @z1x (And.intro @qio (And.intro @qqk (And.intro @qv8 (And.intro @qg8 (And.intro @z1y (And.intro @qfd (And.intro @qik (And.intro @qjq @qx0)))))))))))))))
section
variable {α β : Type} {r : β} {P : Prop}
theorem bs {o : Option α} {k : α → Option β} (f : ∀ x,o = some x → k x = some r → P) (h : o >>= k = some r) : P := by
 obtain ⟨x,h1,h2⟩ := Option.bind_eq_some_iff.1 h
 exact f x h1 h2
theorem it {b : Bool} {p q : Option β} (f : b = true → p = some r → P) (g : b = false → q = some r → P) (h : (if b = true then p else q) = some r) : P := by
 cases b
 ·exact g rfl h
 ·exact f rfl h
theorem gd {Q : Prop} [Decidable Q] {p : Option β} (f : Q → p = some r → P) (h : (if Q then p else none) = some r) : P := by
 split at h
 ·exact f ‹_› h
 ·cases h
variable {l : List α} {i lo hi : Int}
theorem bg {k : α → Option β} (e : α → List PV) (f : ∀ x,za l i = some x → (∀ kd,jh (.pv (.int kd i)) = some i.toNat) → (List.map e l)[i.toNat]? = some (e x) → (∀ z,(szc z l = z) = True) → k x = some r → P) (h : za l i >>= k = some r) : P :=
 bs (fun x hx => f x hx (z2z hx) (qnp e hx) (qqo hx)) h
variable {k : List α → Option β}
theorem b2 (e : α → List PV) (f : ∀ x,xk l lo hi = some x → (∀ kd,jh (.pv (.int kd lo)) = some lo.toNat) → (∀ kd,jh (.pv (.int kd hi)) = some hi.toNat) → (lo.toNat ≤ hi.toNat) = True → (hi.toNat ≤ l.length) = True → ((List.map e l).take hi.toNat).drop lo.toNat = List.map e x → (∀ z,szc (szc z l) x = szc z x) → k x = some r → P) (h : xk l lo hi >>= k = some r) : P :=
 bs (fun x hx => f x hx (qi4 hx) (qnx hx) (zd9 hx) (qzp hx) (qt2 e hx) (qxz hx)) h
variable {s : List α}
theorem rG (k : Nat) (e : α → List PV) (l : List α) (te : TI) (β nx : Nat) (c : List PV) (hk : k = te.size) (hr : zo (l.length + 1) te.bytes = true) :
  q2c te β l.length l.length [c] nx (some (.row l.isEmpty (szc k l) (List.map e l))) = some (.row β (List.map e l ++ [c]).length 0 (List.map e l ++ [c]).length,[(β,.row false k (List.map e l ++ [c]))],nx) := qn9 te β k nx e l c [] hk hr
end
section
variable (m : q6l) (k v : Int) (b : Bool) (β : Nat)
end
theorem fF {G : GP} {f : FuncId} {S : Special} {nt : Nat} {ob : Option Code} {ra : Array ResultVar} (hfi : G.fn f = some ⟨nt,ra.toList,ob.get!⟩) {c : Code} {rs : List ResultVar} {H : Heap} {args : List AV} {r : Option (AV × Heap)}
  (hs : S.call f = none := by rfl) (hc : ob = some c := by rfl) (hr : ra = ⟨rs⟩ := by rfl) (hk : j5 0 H = true := by rfl)
  (h : q54 G f H.length rs (cont G (omega G S) f [.code c] (.normal,⟨uh 0 args,H,H.length⟩)) = r := by
   simp (maxSteps := 2000000) (disch := first | assumption | rfl | exact q82.mk (by kernel_rfl)) only [go_sem,↓reduceIte,Nat.reduceLeDiff,Nat.reduceEqDiff,Nat.reduceLT,Nat.reduceAdd,Nat.reduceSub,Nat.reduceMul,reduceCtorEq,Nat.reducePow, *]) :
  (omega G S).call f args H = r := qp4 hs hfi hc hr hk h
theorem fL {G : GP} {f : FuncId} {S : Special} {fi : FI} (hfi : G.fn f = some fi) {id : Nat} {c : Code} {s : St} {r : Option (Ex × St)}
  (hc : zh fi.body id = some c := by rfl)
  (h : roundEnd G (omega G S) f id s.nx (cont G (omega G S) f [.code c] (.normal,s)) = r := by
   simp (maxSteps := 2000000) (disch := first | assumption | rfl | exact q82.mk (by kernel_rfl)) only [go_sem,↓reduceIte,Nat.reduceLeDiff,Nat.reduceEqDiff,Nat.reduceLT,Nat.reduceAdd,Nat.reduceSub,Nat.reduceMul,reduceCtorEq,Nat.reducePow, *]) :
  (omega G S).loop f id s = r := z4q hfi hc h
def refsOf (H : Heap) : List Nat → List Nat
 | [] => []
 | β :: r => (jy H β).refs ++ refsOf H r
theorem qds (H : Heap) : ∀ d : List Nat,(d.flatMap fun β => (jy H β).refs) = refsOf H d
 | [] => rfl
 | β :: r => by rw [List.flatMap_cons,qds H r]; rfl
theorem zfn (H : Heap) (d roots : List Nat) : mh H d roots = match roots,d with
 | [],[] => some ([],[])
 | roots,d => let L := reach H 400 (roots ++ refsOf H d) d
  if q1d roots L && closedIn H L L then some (L,pick H (pos L) 0 L) else none := by
 cases roots <;> cases d <;> first | rfl | simp only [mh,qds]
theorem qme (H : Heap) : xw .ptr (.pv .nilptr) H = some true := rfl
theorem qix (H : Heap) (β o : Nat) : xw .ptr (.ptr β o) H = some false := rfl
theorem z8x (H : Heap) (c : List PV) (o : Nat) : xw .ptr (.rptr c o) H = some false := rfl
theorem qw1 (H : Heap) (β ver i o : Nat) : xw .ptr (.eptr β ver i o) H = some false := rfl
theorem z9q (H : Heap) (c : List PV) : xw .ptr (.pv (.rp c)) H = some false := rfl
theorem z8b (H : Heap) (e : TypeId) (b : Bool) (sz : Nat) (es : List (List PV)) : xw (.slice e) (.pv (.sl b sz es)) H = some b := rfl
theorem qil (H : Heap) (e : TypeId) : xw (.slice e) .zsl H = some false := rfl
theorem z5u (H : Heap) (e : TypeId) (β ver off n : Nat) : xw (.slice e) (.row β ver off n) H = match H.get β with | some (.row b _ es) => if ver = es.length then some b else none | _ => none := rfl
theorem z4b (H : Heap) (k e : TypeId) : xw (.map k e) (.pv .nilmap) H = some true := rfl
theorem zhz (H : Heap) (k e : TypeId) (β : Nat) : xw (.map k e) (.map β) H = some false := rfl
theorem qtg (H : Heap) : xw .func (.pv .nilfn) H = some true := rfl
theorem zkb (H : Heap) (f : FuncId) : xw .func (.pv (.fn f)) H = some false := rfl
theorem zcv (H : Heap) (f : FuncId) (a b : List AV) : xw .func (.clo f a b) H = some false := rfl
theorem take_set {α β : Type} (e : α → β) (l : List α) (i : Nat) (x : α) : (List.map e (l.set i x)).take l.length = List.map e (l.set i x) := by
 have h : (l.set i x).length = l.length := List.length_set
 rw [← List.map_take,← h,List.take_length]
end Go.Gm
namespace Go.Gm
open Go
end Go.Gm
