/-
  The machine, part d.
-/
import Derived.Test.YtljbbncgpbgboaaGreatDoorCac
set_option linter.unusedSimpArgs false
set_option linter.unusedVariables false
namespace Go.Gm
open Go
abbrev Bytes := List UInt8
structure Sl (α : Type) where
 nil : Bool
 l : List α
 deriving Inhabited,DecidableEq
def j6 (s : Bytes) : List PV := [.str s]
def q1o (n : Int) : List PV := [.int .i64 n]
def kE (k : IntKind) (n : Int) : List PV := [.int k n]
def q81 (b : Bool) : List PV := [.bool b]
def q17 (b : UInt8) : List PV := [.int .u8 b.toNat]
def slE {α : Type} (k : Nat) (e : α → List PV) (s : Sl α) : List PV := [.sl s.nil (szc k s.l) (List.map e s.l)]
def q61 {α : Type} (e : α → List PV) (s : α × α) : List PV := e s.1 ++ e s.2
abbrev Dum : Prop := ∀ x : Bool,(x && true) = x
def wz {α : Type} (l : List α) (i : Int) : Option α := if 0 ≤ i then l[i.toNat]? else none
def jo {α : Type} (l : List α) (lo hi : Int) : Option (List α) := if (0 ≤ lo ∧ 0 ≤ hi) ∧ (lo.toNat ≤ hi.toNat ∧ hi.toNat ≤ l.length) then some ((l.take hi.toNat).drop lo.toNat) else none
def u8 (n : Int) : UInt8 := UInt8.ofNat n.toNat
section
variable {α : Type} {l : List α} {i lo hi : Int} {x : α} {r : List α}
theorem qek (h : wz l i = some x) (k : IntKind) : xm (.pv (.int k i)) = some i.toNat := by
 unfold wz at h; split at h
 ·rename_i h0; simp [xm,h0]
 ·cases h
theorem z4a (h : wz l i = some x) : l[i.toNat]? = some x := by
 unfold wz at h; split at h
 ·exact h
 ·cases h
theorem qb1 (h : jo l lo hi = some r) (k : IntKind) : xm (.pv (.int k lo)) = some lo.toNat := by
 unfold jo at h; split at h
 ·rename_i h0; simp [xm,h0.1.1]
 ·cases h
theorem z0b (h : jo l lo hi = some r) (k : IntKind) : xm (.pv (.int k hi)) = some hi.toNat := by
 unfold jo at h; split at h
 ·rename_i h0; simp [xm,h0.1.2]
 ·cases h
theorem qnp (h : jo l lo hi = some r) : (lo.toNat ≤ hi.toNat) = True := by
 unfold jo at h; split at h
 ·rename_i h0; simp [h0.2.1]
 ·cases h
theorem qg0 (h : jo l lo hi = some r) : (hi.toNat ≤ l.length) = True := by
 unfold jo at h; split at h
 ·rename_i h0; simp [h0.2.2]
 ·cases h
theorem q92 (h : jo l lo hi = some r) : (l.take hi.toNat).drop lo.toNat = r := by
 unfold jo at h; split at h <;> simp_all
theorem qmd {β : Type} (e : α → β) (h : jo l lo hi = some r) : ((List.map e l).take hi.toNat).drop lo.toNat = List.map e r := by rw [← List.map_take,← List.map_drop,q92 h]
theorem qts (h : jo l lo hi = some r) (k : Nat) : szc (szc k l) r = szc k r := by
 have := q92 h
 cases r with
 | nil => rfl
 | cons => cases l <;> simp_all [szc]
theorem qp3 {β : Type} (k : Nat) (e : α → β) (l : List α) : szc k (List.map e l) = szc k l := by cases l <;> rfl
theorem qr3 (k : Nat) (l : List α) : szc (szc k l) l = szc k l := by cases l <;> rfl
theorem q7p (k : Nat) : szc k ([] : List α) = 0 := rfl
theorem q6m (k : Nat) (x : α) (l : List α) : szc k (x :: l) = k := rfl
theorem q7g (k : Nat) (l : List α) (x : α) (r : List α) : szc k (l ++ x :: r) = k := by cases l <;> rfl
theorem q69 (k : Nat) (l : List α) (i : Nat) (x : α) : szc k (l.set i x) = szc k l := by cases l <;> cases i <;> rfl
theorem z2m {β : Type} (e : α → β) (l : List α) : (List.map e l).isEmpty = l.isEmpty := by cases l <;> rfl
theorem q8y (l : List α) (x : α) (r : List α) : (l ++ x :: r).isEmpty = false := by cases l <;> rfl
theorem q79 (l : List α) (i : Nat) (x : α) : (l.set i x).isEmpty = l.isEmpty := by cases l <;> cases i <;> rfl
theorem q7o (x : α) (l : List α) : (x :: l).isEmpty = false := rfl
theorem q6f : ([] : List α).isEmpty = true := rfl
theorem take_len {β : Type} (e : α → β) (l : List α) : (List.map e l).take l.length = List.map e l := by rw [← List.map_take,List.take_length]
theorem za2 (s : Bytes) : List.map (fun b => [PV.int .u8 (b.toNat : Int)]) s = List.map q17 s := rfl
theorem q7h (b : UInt8) : u8 (b.toNat : Int) = b := by simp [u8]
theorem q9j (n : Int) : ((u8 (IntKind.u8.wrap n)).toNat : Int) = IntKind.u8.wrap n := by
 have h : 0 ≤ IntKind.u8.wrap n ∧ IntKind.u8.wrap n < 256 := by
  simp only [IntKind.wrap,IntKind.bits,IntKind.signed]
  constructor
  ·simp; omega
  ·simp; omega
 simp only [u8,UInt8.toNat_ofNat']
 omega
theorem qol : List.range 1 = [0] := rfl
theorem qap : List.range 2 = [0,1] := rfl
theorem qoo : List.range 3 = [0,1,2] := rfl
theorem qh9 : List.range 4 = [0,1,2,3] := rfl
theorem z3v : List.range 5 = [0,1,2,3,4] := rfl
theorem qtp : List.range 6 = [0,1,2,3,4,5] := rfl
def q3a (te : TI) (β L n : Nat) (src : List (List PV)) (nx : Nat) : Option Blk → Option Eff
 | some (.row true _ es) => if L = es.length ∧ n = 0 then jb te (.row β L 0 n) src β nx nx else none
 | some (.row false sz es) =>
  if L = es.length ∧ sz = te.size ∧ ji (n + src.length) te.bytes = true then
   if n = es.length then some (.row β (es ++ src).length 0 (es ++ src).length,[(β,.row false te.size (es ++ src))],nx)
   else some (.row β (es.take n ++ src ++ es.drop (n + src.length)).length 0 (n + src.length),[(β,.row false te.size (es.take n ++ src ++ es.drop (n + src.length)))],nx)
  else none
 | _ => none
theorem z0m (te : TI) (β L n nx sz : Nat) (es src : List (List PV)) : q3a te β L n src nx (some (.row false sz es)) =
  if L = es.length ∧ sz = te.size ∧ ji (n + src.length) te.bytes = true then
   if n = es.length then some (.row β (es ++ src).length 0 (es ++ src).length,[(β,.row false te.size (es ++ src))],nx)
   else some (.row β (es.take n ++ src ++ es.drop (n + src.length)).length 0 (n + src.length),[(β,.row false te.size (es.take n ++ src ++ es.drop (n + src.length)))],nx)
  else none := rfl
theorem qle (te : TI) (β L n nx sz : Nat) (es src : List (List PV)) : q3a te β L n src nx (some (.row true sz es)) = if L = es.length ∧ n = 0 then jb te (.row β L 0 n) src β nx nx else none := rfl
def q2y (te : TI) (β L n : Nat) (H : Heap) (nx : Nat) (d : Option Eff) : Option (Nat × List (List PV)) → Option Eff
 | none => d
 | some (xsz,src) => if (xsz = te.size ∨ src = []) ∧ 0 < te.size then q3a te β L n src nx (H.get β) else none
theorem qxx (te : TI) (β L n : Nat) (x : AV) (H : Heap) (nx : Nat) : xy te (.row β L 0 n) x H nx = q2y te β L n H nx (y5 te (.row β L 0 n) x H nx) (xg x H) := by
 unfold xy q2y
 cases xg x H with
 | none => rfl
 | some p =>
  obtain ⟨xsz,src⟩ := p
  simp only
  split
  ·unfold q3a
   cases H.get β with
   | none => rfl
   | some b =>
    cases b with
    | row isnil sz es => cases isnil <;> simp
    | _ => rfl
  ·rfl
theorem qn2 (te : TI) (sz : Nat) (es : List (List PV)) (x : AV) (H : Heap) (nx : Nat) : xy te (.pv (.sl true sz es)) x H nx =
  match xg x H with
  | none => y5 te (.pv (.sl true sz es)) x H nx
  | some (xsz,src) => if (xsz = te.size ∨ src = []) ∧ 0 < te.size then jb te (.pv (.sl true sz es)) src nx nx (nx + 1) else none := rfl
theorem z6n (te : TI) (x : AV) (H : Heap) (nx : Nat) : xy te .zsl x H nx =
  match xg x H with
  | none => y5 te .zsl x H nx
  | some (xsz,src) => if (xsz = te.size ∨ src = []) ∧ 0 < te.size then jb te .zsl src nx nx (nx + 1) else none := rfl
end
structure q3q where
 es : List (Int × Int × Nat)
 clock : Nat
 deriving Inhabited
def q7u (e : Int × Int × Nat) : PV × PV × Nat := (.int .i64 e.1,.int .i64 e.2.1,e.2.2)
def z6k (te : TI) (k : PV) (ok : Bool) : Option Blk → Option AV
 | some (.map es _) => match findKey k es 0 with
  | some (some (_,v,_)) => some (if ok then .tup [.pv v,.pv (.bool true)] else .pv v)
  | some none => some (if ok then .tup [.pv (jr te),.pv (.bool false)] else .pv (jr te))
  | none => none
 | _ => none
def qj5 (β : Nat) (k v : PV) : Option Blk → Option (List (Nat × Blk))
 | some (.map es clock) => match findKey k es 0 with
  | some (some (i,_,born)) => some [(β,.map (es.set i (k,v,born)) clock)]
  | some none => some [(β,.map (es ++ [(k,v,clock)]) (clock + 1))]
  | none => none
 | _ => none
def qo4 (te : TI) (β : Nat) (k : PV) : Option Blk → Option (AV × List (Nat × Blk))
 | some (.map es clock) => match findKey k es 0 with
  | some (some (i,v,born)) => some (.tup [.pv v,.pv (.int .i64 born)],[(β,.map (es.set i (k,v,born)) clock)])
  | some none => some (.tup [.pv (jr te),.pv (.int .i64 clock)],[(β,.map (es ++ [(k,jr te,clock)]) (clock + 1))])
  | none => none
 | _ => none
def qjs (β : Nat) (born : Int) (v : PV) : Option Blk → Option (List (Nat × Blk))
 | some (.map es clock) => match q27 born es 0 with
  | some (i,k,b) => some [(β,.map (es.set i (k,v,b)) clock)]
  | none => none
 | _ => none
def qpj (β : Nat) (k : PV) : Option Blk → Option (List (Nat × Blk))
 | some (.map es clock) => match findKey k es 0 with
  | some (some (i,_,_)) => some [(β,.map (es.eraseIdx i) clock)]
  | some none => some [(β,.map es clock)]
  | none => none
 | _ => none
theorem qgh (tk te : TI) (β : Nat) (k : PV) (ok : Bool) (H : Heap) : q0h tk te (.map β) (.pv k) ok H = if za tk.td k = true then z6k te k ok (H.get β) else none := by
 unfold q0h q0r
 simp only
 split
 ·cases H.get β with
  | none => rfl
  | some b => cases b <;> rfl
 ·rfl
theorem qzi (tk : TI) (β : Nat) (k v : PV) (H : Heap) : yo tk (.map β) (.pv k) v H = if za tk.td k = true then qj5 β k v (H.get β) else none := by
 unfold yo
 simp only
 split
 ·cases H.get β with
  | none => rfl
  | some b => cases b <;> rfl
 ·rfl
theorem z81 (tk te : TI) (β : Nat) (k : PV) (H : Heap) : uo tk te (.map β) (.pv k) H = if za tk.td k = true then qo4 te β k (H.get β) else none := by
 unfold uo
 simp only
 split
 ·cases H.get β with
  | none => rfl
  | some b => cases b <;> rfl
 ·rfl
theorem qo9 (β : Nat) (kd : IntKind) (born : Int) (v : PV) (H : Heap) : vg (.map β) (.pv (.int kd born)) v H = qjs β born v (H.get β) := by
 unfold vg
 simp only
 cases H.get β with
 | none => rfl
 | some b => cases b <;> rfl
theorem qfk (tk : TI) (β : Nat) (k : PV) (H : Heap) : yw tk (.map β) (.pv k) H = if za tk.td k = true then qpj β k (H.get β) else none := by
 unfold yw
 simp only
 split
 ·cases H.get β with
  | none => rfl
  | some b => cases b <;> rfl
 ·rfl
section
variable (b : Bool) (β : Nat) (m : q3q) (k : Int)
end
theorem z4p {α β : Type} (f : α → β) (a : α) (l : List α) : List.map f (a :: l) = f a :: List.map f l := rfl
theorem z7i {α β : Type} (f : α → β) : List.map f ([] : List α) = [] := rfl
theorem qhf {α : Type} : ([] : List α).length = 0 := rfl
theorem qft {α : Type} (a : α) (l : List α) : (a :: l).length = l.length + 1 := rfl
theorem z6e {α : Type} (l : List α) (x : α) : (l.length < (l ++ [x]).length) = True := by simp
theorem qd9 {α β : Type} (f : α → β) (l : List α) (x : β) : (l.length < (List.map f l ++ [x]).length) = True := by simp
theorem q7l {α : Type} (l : List α) (i : Nat) (x : α) : (l.set i x).length = l.length := List.length_set
def qjh := PLift.up (And.intro @z4p (And.intro @z7i (And.intro @qhf (And.intro @qft (And.intro @q7p (And.intro @q6m (And.intro @q7g (And.intro @q69 (And.intro @q6f (And.intro @q7o (And.intro @q8y (And.intro @q79 (And.intro @q7l (And.intro @q7h @q9j))))))))))))))
theorem qhi {α : Type} {P : Program} {t : TypeId} {e : α → List PV} {ok : α → Prop} {n : Nat} (h : Reads P t e ok n) : Reads P t e (fun _ => True) n := h.map (fun x => x) (fun _ _ => ⟨trivial,rfl⟩)
def zn {α : Type} (_ : α) : Prop := True
def inI (n : Int) : Prop := -9223372036854775808 ≤ n ∧ n ≤ 9223372036854775807
def zy (s : Bytes) : Prop := s.length ≤ maxLen
def zi {α : Type} (ok : α → Prop) (s : Sl α) : Prop := (s.l.length ≤ maxLen ∧ (s.nil = true → s.l = [])) ∧ ∀ a ∈ s.l,ok a
theorem q1p {n : Int} (h1 : -9223372036854775808 ≤ n) (h2 : n ≤ 9223372036854775807) : IntKind.i64.wrap n = n := IntWalk.i64_in n ⟨h1,h2⟩
theorem qmj (b : Bool) : AV.cells (.pv (.bool b)) = [(.pv (.bool b))] := rfl
theorem qlf (k : IntKind) (n : Int) : AV.cells (.pv (.int k n)) = [(.pv (.int k n))] := rfl
theorem qll (l : List UInt8) : AV.cells (.pv (.str l)) = [(.pv (.str l))] := rfl
theorem qh2 (a : Bool) (b : Nat) (c : List (List PV)) : AV.cells (.pv (.sl a b c)) = [(.pv (.sl a b c))] := rfl
theorem qba : AV.cells (.pv (.nilptr)) = [(.pv (.nilptr))] := rfl
theorem qq7 : AV.cells (.pv (.nilfn)) = [(.pv (.nilfn))] := rfl
theorem z8b : AV.cells (.pv (.nilmap)) = [(.pv (.nilmap))] := rfl
theorem qfs : AV.cells (.pv (.nilif)) = [(.pv (.nilif))] := rfl
theorem qhl (f : FuncId) : AV.cells (.pv (.fn f)) = [(.pv (.fn f))] := rfl
theorem qgj (c : List PV) : AV.cells (.pv (.rp c)) = [(.pv (.rp c))] := rfl
theorem qc9 (c : List PV) : AV.cells (.pv (.agg c)) = c.map .pv := rfl
theorem qsd (x y : Nat) : AV.cells (.ptr x y) = [(.ptr x y)] := rfl
theorem zaw (x y z u : Nat) : AV.cells (.eptr x y z u) = [(.eptr x y z u)] := rfl
theorem qih (c : List PV) (x : Nat) : AV.cells (.rptr c x) = [(.rptr c x)] := rfl
theorem qcf (x y z u : Nat) : AV.cells (.row x y z u) = [(.row x y z u)] := rfl
theorem qpw : AV.cells (.zsl) = [(.zsl)] := rfl
theorem qpn (x : Nat) : AV.cells (.map x) = [(.map x)] := rfl
theorem qte (f : FuncId) (a b : List AV) : AV.cells (.clo f a b) = [(.clo f a b)] := rfl
theorem qn9 (l : List AV) : AV.cells (.tup l) = [(.tup l)] := rfl
theorem z7j (c : List AV) : AV.cells (.agg c) = c := rfl
abbrev v_i (n : Int) : AV := .pv (.int .i64 n)
abbrev v_b (b : Bool) : AV := .pv (.bool b)
abbrev v_s (s : Bytes) : AV := .pv (.str s)
abbrev v_g (l : List PV) : AV := .pv (.agg l)
abbrev v_l {α : Type} (k : Nat) (e : α → List PV) (s : Sl α) : AV := .pv (.sl s.nil (szc k s.l) (List.map e s.l))
abbrev v_r {α : Type} (β : Nat) (l : List α) : AV := .row β l.length 0 l.length
abbrev b_x (l : List PV) : Blk := .box (List.map .pv l)
abbrev b_r {α : Type} (k : Nat) (e : α → List PV) (l : List α) : Blk := .row l.isEmpty (szc k l) (List.map e l)
abbrev b_m (m : q3q) : Blk := .map (List.map q7u m.es) m.clock
theorem qgq (n : Int) : v_i n = .pv (.int .i64 n) := rfl
theorem qnt (b : Bool) : v_b b = .pv (.bool b) := rfl
theorem qst (s : Bytes) : v_s s = .pv (.str s) := rfl
theorem qvz (l : List PV) : v_g l = .pv (.agg l) := rfl
theorem z8v {α : Type} (k : Nat) (e : α → List PV) (s : Sl α) : v_l k e s = .pv (.sl s.nil (szc k s.l) (List.map e s.l)) := rfl
theorem qye {α : Type} (β : Nat) (l : List α) : v_r β l = .row β l.length 0 l.length := rfl
theorem qkt (l : List PV) : b_x l = .box (List.map .pv l) := rfl
theorem qm7 {α : Type} (k : Nat) (e : α → List PV) (l : List α) : b_r k e l = .row l.isEmpty (szc k l) (List.map e l) := rfl
theorem qmm (m : q3q) : b_m m = .map (List.map q7u m.es) m.clock := rfl
theorem qyp (b : UInt8) : q17 b = [.int .u8 b.toNat] := rfl
theorem quz (n : Int) : q1o n = [.int .i64 n] := rfl
theorem qzk (s : Bytes) : j6 s = [.str s] := rfl
theorem qvk (b : Bool) : q81 b = [.bool b] := rfl
theorem qlg (k : IntKind) (n : Int) : kE k n = [.int k n] := rfl
theorem qlv {α : Type} (k : Nat) (e : α → List PV) (s : Sl α) : slE k e s = [.sl s.nil (szc k s.l) (List.map e s.l)] := rfl
theorem z08 {α : Type} (e : α → List PV) (s : α × α) : q61 e s = e s.1 ++ e s.2 := rfl
def qrq := PLift.up (And.intro @qgq (And.intro @qnt (And.intro @qst (And.intro @qvz (And.intro @z8v (And.intro @qye (And.intro @qkt (And.intro @qm7 (And.intro @qmm (And.intro @qyp (And.intro @quz (And.intro @qzk (And.intro @qvk (And.intro @qlg (And.intro @qlv @z08)))))))))))))))
section
variable {α β : Type} {r : β} {P : Prop}
theorem bs {o : Option α} {k : α → Option β} (f : ∀ x,o = some x → k x = some r → P) (h : o >>= k = some r) : P := by
 obtain ⟨x,h1,h2⟩ := Option.bind_eq_some_iff.1 h
 exact f x h1 h2
theorem it {b : Bool} {p q : Option β} (f : b = true → p = some r → P) (g : b = false → q = some r → P) (h : (if b = true then p else q) = some r) : P := by
 cases b
 ·exact g rfl h
 ·exact f rfl h
theorem gd {Q : Prop} [Decidable Q] {p : Option β} (f : Q → p = some r → P) (h : (if Q then p else none) = some r) : P := by
 split at h
 ·exact f ‹_› h
 ·cases h
variable {l : List α} {i lo hi : Int}
theorem bc {k : α → Option β} (f : ∀ x,wz l i = some x → (∀ kd,xm (.pv (.int kd i)) = some i.toNat) → l[i.toNat]? = some x → k x = some r → P) (h : wz l i >>= k = some r) : P :=
 bs (fun x hx => f x hx (qek hx) (z4a hx)) h
variable {k : List α → Option β}
theorem b2 (e : α → List PV) (f : ∀ x,jo l lo hi = some x → (∀ kd,xm (.pv (.int kd lo)) = some lo.toNat) → (∀ kd,xm (.pv (.int kd hi)) = some hi.toNat) → (lo.toNat ≤ hi.toNat) = True → (hi.toNat ≤ l.length) = True → ((List.map e l).take hi.toNat).drop lo.toNat = List.map e x → (∀ z,szc (szc z l) x = szc z x) → k x = some r → P) (h : jo l lo hi >>= k = some r) : P :=
 bs (fun x hx => f x hx (qb1 hx) (z0b hx) (qnp hx) (qg0 hx) (qmd e hx) (qts hx)) h
variable {s : List α}
end
section
variable (m : q3q) (k v : Int) (b : Bool) (β : Nat)
end
theorem fF {G : GP} {f : FuncId} {S : Special} {nt : Nat} {ob : Option Code} {ra : Array ResultVar} (hfi : G.fn f = some ⟨nt,ra.toList,ob.get!⟩) {c : Code} {rs : List ResultVar} {H : Heap} {args : List AV} {r : Option (AV × Heap)}
  (hs : S.call f = none := by rfl) (hc : ob = some c := by rfl) (hr : ra = ⟨rs⟩ := by rfl) (hk : zw 0 H = true := by rfl)
  (h : q2q G f H.length rs (cont G (omega G S) f [.code c] (.normal,⟨ko 0 args,H,H.length⟩)) = r := by
   simp (maxSteps := 2000000) (disch := first | assumption | rfl | exact q4b.mk (by kernel_rfl)) only [go_sem,↓reduceIte,Nat.reduceLeDiff,Nat.reduceEqDiff,Nat.reduceLT,Nat.reduceAdd,Nat.reduceSub,Nat.reduceMul,reduceCtorEq,Nat.reducePow, *]) :
  (omega G S).call f args H = r := qbt hs hfi hc hr hk h
theorem fL {G : GP} {f : FuncId} {S : Special} {fi : FI} (hfi : G.fn f = some fi) {id : Nat} {c : Code} {s : St} {r : Option (Ex × St)}
  (hc : qx fi.body id = some c := by rfl)
  (h : roundEnd G (omega G S) f id s.nx (cont G (omega G S) f [.code c] (.normal,s)) = r := by
   simp (maxSteps := 2000000) (disch := first | assumption | rfl | exact q4b.mk (by kernel_rfl)) only [go_sem,↓reduceIte,Nat.reduceLeDiff,Nat.reduceEqDiff,Nat.reduceLT,Nat.reduceAdd,Nat.reduceSub,Nat.reduceMul,reduceCtorEq,Nat.reducePow, *]) :
  (omega G S).loop f id s = r := qun hfi hc h
def refsOf (H : Heap) : List Nat → List Nat
 | [] => []
 | β :: r => (xx H β).refs ++ refsOf H r
theorem q5p (H : Heap) : ∀ d : List Nat,(d.flatMap fun β => (xx H β).refs) = refsOf H d
 | [] => rfl
 | β :: r => by rw [List.flatMap_cons,q5p H r]; rfl
theorem qhm (H : Heap) (d roots : List Nat) : yh H d roots = match roots,d with
 | [],[] => some ([],[])
 | roots,d => let L := reach H 400 (roots ++ refsOf H d) d
  if bz roots L && closedIn H L L then some (L,pick H (pos L) 0 L) else none := by
 cases roots <;> cases d <;> first | rfl | simp only [yh,q5p]
theorem qcv (H : Heap) : zo .ptr (.pv .nilptr) H = some true := rfl
theorem qfv (H : Heap) (β o : Nat) : zo .ptr (.ptr β o) H = some false := rfl
theorem qxo (H : Heap) (c : List PV) (o : Nat) : zo .ptr (.rptr c o) H = some false := rfl
theorem qdf (H : Heap) (β ver i o : Nat) : zo .ptr (.eptr β ver i o) H = some false := rfl
theorem qj9 (H : Heap) (c : List PV) : zo .ptr (.pv (.rp c)) H = some false := rfl
theorem qq3 (H : Heap) (e : TypeId) (b : Bool) (sz : Nat) (es : List (List PV)) : zo (.slice e) (.pv (.sl b sz es)) H = some b := rfl
theorem z8z (H : Heap) (e : TypeId) : zo (.slice e) .zsl H = some false := rfl
theorem qjw (H : Heap) (e : TypeId) (β ver off n : Nat) : zo (.slice e) (.row β ver off n) H = match H.get β with | some (.row b _ es) => if ver = es.length then some b else none | _ => none := rfl
theorem qn4 (H : Heap) (k e : TypeId) : zo (.map k e) (.pv .nilmap) H = some true := rfl
theorem qu5 (H : Heap) (k e : TypeId) (β : Nat) : zo (.map k e) (.map β) H = some false := rfl
theorem qk6 (H : Heap) : zo .func (.pv .nilfn) H = some true := rfl
theorem qtu (H : Heap) (f : FuncId) : zo .func (.pv (.fn f)) H = some false := rfl
theorem qw4 (H : Heap) (f : FuncId) (a b : List AV) : zo .func (.clo f a b) H = some false := rfl
theorem take_set {α β : Type} (e : α → β) (l : List α) (i : Nat) (x : α) : (List.map e (l.set i x)).take l.length = List.map e (l.set i x) := by
 have h : (l.set i x).length = l.length := List.length_set
 rw [← List.map_take,← h,List.take_length]
end Go.Gm
namespace Go.Gm
open Go
end Go.Gm
