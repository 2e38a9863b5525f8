/-
  The machine, part d.
-/
import Derived.Test.YtmlmgbnhaenabaaLc
set_option linter.unusedSimpArgs false
set_option linter.unusedVariables false

/-
  Go's data as plain Lean data and as the machine's cells; what functions that were turned into plain Lean are made of.
-/
namespace Go.Gm
open Go

abbrev Bytes := List UInt8

/-- A slice: is it nil, what it has. -/
structure Sl (α : Type) where
  nil : Bool
  l : List α
  deriving Inhabited, DecidableEq

def strE (s : Bytes) : List PV := [.str s]
def intE (n : Int) : List PV := [.int .i64 n]
def kE (k : IntKind) (n : Int) : List PV := [.int k n]
def boolE (b : Bool) : List PV := [.bool b]
def byteE (b : UInt8) : List PV := [.int .u8 b.toNat]
def slE {α : Type} (k : Nat) (e : α → List PV) (s : Sl α) : List PV := [.sl s.nil (szc k s.l) (List.map e s.l)]
def arr2E {α : Type} (e : α → List PV) (s : α × α) : List PV := e s.1 ++ e s.2

/-- Nothing, told as a rule. -/
abbrev Dum : Prop := ∀ x : Bool, (x && true) = x

/-! Looking things up. -/
def geti {α : Type} (l : List α) (i : Int) : Option α := if 0 ≤ i then l[i.toNat]? else none
/-- l[lo:hi] -/
def sub2 {α : Type} (l : List α) (lo hi : Int) : Option (List α) := if (0 ≤ lo ∧ 0 ≤ hi) ∧ (lo.toNat ≤ hi.toNat ∧ hi.toNat ≤ l.length) then some ((l.take hi.toNat).drop lo.toNat) else none
def subF {α : Type} (l : List α) (lo : Int) : Option (List α) := if 0 ≤ lo ∧ lo.toNat ≤ l.length then some (l.drop lo.toNat) else none
def subT {α : Type} (l : List α) (hi : Int) : Option (List α) := if 0 ≤ hi ∧ hi.toNat ≤ l.length then some (l.take hi.toNat) else none
/-- A byte as a number's low bits. -/
def u8 (n : Int) : UInt8 := UInt8.ofNat n.toNat
def room (n b : Nat) : Bool := roomOK n b

section
variable {α : Type} {l : List α} {i lo hi : Int} {x : α} {r : List α}

theorem geti_nat (h : geti l i = some x) (k : IntKind) : natOf (.pv (.int k i)) = some i.toNat := by
  unfold geti at h; split at h
  · rename_i h0; simp [natOf, h0]
  · cases h
theorem nat_made (k : IntKind) {n : Int} (h : 0 ≤ n) : natOf (.pv (.int k n)) = some n.toNat := by simp [natOf, h]
theorem geti_at (h : geti l i = some x) : l[i.toNat]? = some x := by
  unfold geti at h; split at h
  · exact h
  · cases h
theorem geti_map {β : Type} (e : α → β) (h : geti l i = some x) : (List.map e l)[i.toNat]? = some (e x) := by simp [geti_at h]
theorem geti_ne (h : geti l i = some x) : l.isEmpty = false := by
  have := geti_at h; cases l <;> simp_all
theorem geti_szc (h : geti l i = some x) (k : Nat) : szc k l = k := by
  have := geti_at h; cases l <;> simp_all [szc]
theorem geti_szcT (h : geti l i = some x) (k : Nat) : (szc k l = k) = True := by simp [geti_szc h]
theorem geti_lt (h : geti l i = some x) : (i.toNat < l.length) = True := by
  have := geti_at h; simp only [eq_iff_iff, iff_true]; exact (List.getElem?_eq_some_iff.1 this).1

theorem sub2_lo (h : sub2 l lo hi = some r) (k : IntKind) : natOf (.pv (.int k lo)) = some lo.toNat := by
  unfold sub2 at h; split at h
  · rename_i h0; simp [natOf, h0.1.1]
  · cases h
theorem sub2_hi (h : sub2 l lo hi = some r) (k : IntKind) : natOf (.pv (.int k hi)) = some hi.toNat := by
  unfold sub2 at h; split at h
  · rename_i h0; simp [natOf, h0.1.2]
  · cases h
theorem sub2_le (h : sub2 l lo hi = some r) : (lo.toNat ≤ hi.toNat) = True := by
  unfold sub2 at h; split at h
  · rename_i h0; simp [h0.2.1]
  · cases h
theorem sub2_len (h : sub2 l lo hi = some r) : (hi.toNat ≤ l.length) = True := by
  unfold sub2 at h; split at h
  · rename_i h0; simp [h0.2.2]
  · cases h
theorem sub2_eq (h : sub2 l lo hi = some r) : (l.take hi.toNat).drop lo.toNat = r := by
  unfold sub2 at h; split at h <;> simp_all
theorem subF_lo (h : subF l lo = some r) (k : IntKind) : natOf (.pv (.int k lo)) = some lo.toNat := by
  unfold subF at h; split at h
  · rename_i h0; simp [natOf, h0.1]
  · cases h
theorem subF_le (h : subF l lo = some r) : (lo.toNat ≤ l.length) = True := by
  unfold subF at h; split at h
  · rename_i h0; simp [h0.2]
  · cases h
theorem subF_eq (h : subF l lo = some r) : l.drop lo.toNat = r := by
  unfold subF at h; split at h <;> simp_all
theorem subT_hi (h : subT l hi = some r) (k : IntKind) : natOf (.pv (.int k hi)) = some hi.toNat := by
  unfold subT at h; split at h
  · rename_i h0; simp [natOf, h0.1]
  · cases h
theorem subT_len (h : subT l hi = some r) : (hi.toNat ≤ l.length) = True := by
  unfold subT at h; split at h
  · rename_i h0; simp [h0.2]
  · cases h
theorem subT_eq (h : subT l hi = some r) : l.take hi.toNat = r := by
  unfold subT at h; split at h <;> simp_all

/-! Slices of slices: elements mapped, the size told. -/
theorem map_sub2 {β : Type} (e : α → β) (h : sub2 l lo hi = some r) : ((List.map e l).take hi.toNat).drop lo.toNat = List.map e r := by rw [← List.map_take, ← List.map_drop, sub2_eq h]
theorem map_subF {β : Type} (e : α → β) (h : subF l lo = some r) : (List.map e l).drop lo.toNat = List.map e r := by rw [← List.map_drop, subF_eq h]
theorem map_subT {β : Type} (e : α → β) (h : subT l hi = some r) : (List.map e l).take hi.toNat = List.map e r := by rw [← List.map_take, subT_eq h]
theorem szc_sub2 (h : sub2 l lo hi = some r) (k : Nat) : szc (szc k l) r = szc k r := by
  have := sub2_eq h
  cases r with
  | nil => rfl
  | cons => cases l <;> simp_all [szc]
theorem szc_subF (h : subF l lo = some r) (k : Nat) : szc (szc k l) r = szc k r := by
  have := subF_eq h
  cases r with
  | nil => rfl
  | cons => cases l <;> simp_all [szc]
theorem szc_subT (h : subT l hi = some r) (k : Nat) : szc (szc k l) r = szc k r := by
  have := subT_eq h
  cases r with
  | nil => rfl
  | cons => cases l <;> simp_all [szc]
theorem szc_map {β : Type} (k : Nat) (e : α → β) (l : List α) : szc k (List.map e l) = szc k l := by cases l <;> rfl
theorem szc_szc (k : Nat) (l : List α) : szc (szc k l) l = szc k l := by cases l <;> rfl
theorem szc_nil (k : Nat) : szc k ([] : List α) = 0 := rfl
theorem szc_cons (k : Nat) (x : α) (l : List α) : szc k (x :: l) = k := rfl
theorem szc_snoc (k : Nat) (l : List α) (x : α) (r : List α) : szc k (l ++ x :: r) = k := by cases l <;> rfl
theorem szc_set (k : Nat) (l : List α) (i : Nat) (x : α) : szc k (l.set i x) = szc k l := by cases l <;> cases i <;> rfl
theorem emp_map {β : Type} (e : α → β) (l : List α) : (List.map e l).isEmpty = l.isEmpty := by cases l <;> rfl
theorem emp_snoc (l : List α) (x : α) (r : List α) : (l ++ x :: r).isEmpty = false := by cases l <;> rfl
theorem emp_set (l : List α) (i : Nat) (x : α) : (l.set i x).isEmpty = l.isEmpty := by cases l <;> cases i <;> rfl
theorem emp_cons (x : α) (l : List α) : (x :: l).isEmpty = false := rfl
theorem emp_nil : ([] : List α).isEmpty = true := rfl
theorem szc_or {β : Type} (k : Nat) (e : α → β) (l : List α) : (szc k l = k ∨ List.map e l = []) = True := by cases l <;> simp [szc]
theorem szc_or1 {β : Type} (k k' : Nat) (h : k = k') (e : α → β) (l : List α) : (szc k l = k' ∨ List.map e l = []) = True := by subst h; exact szc_or k e l
theorem take_len {β : Type} (e : α → β) (l : List α) : (List.map e l).take l.length = List.map e l := by rw [← List.map_take, List.take_length]
theorem map_snoc {β : Type} (e : α → β) (l : List α) (x : α) : List.map e l ++ [e x] = List.map e (l ++ [x]) := by simp
theorem map_app {β : Type} (e : α → β) (l r : List α) : List.map e l ++ List.map e r = List.map e (l ++ r) := by simp
theorem map_set {β : Type} (e : α → β) (l : List α) (i : Nat) (x : α) : (List.map e l).set i (e x) = List.map e (l.set i x) := by simp [List.map_set]
theorem map_byte (s : Bytes) : List.map (fun b => [PV.int .u8 (b.toNat : Int)]) s = List.map byteE s := rfl
theorem bytesOf_map : ∀ s : Bytes, bytesOf (List.map byteE s) = some s
  | [] => rfl
  | b :: s => by simp [byteE, bytesOf, bytesOf_map s]
theorem len_snoc (l : List α) (x : α) : (l ++ [x]).length = l.length + 1 := by simp
theorem nlt_of {a b : Nat} (h : a < b) : (a < b) = True := by simp [h]
theorem u8_nat (b : UInt8) : u8 (b.toNat : Int) = b := by simp [u8]
theorem u8_wrap (n : Int) : ((u8 (IntKind.u8.wrap n)).toNat : Int) = IntKind.u8.wrap n := by
  have h : 0 ≤ IntKind.u8.wrap n ∧ IntKind.u8.wrap n < 256 := by
    simp only [IntKind.wrap, IntKind.bits, IntKind.signed]
    constructor
    · simp; omega
    · simp; omega
  simp only [u8, UInt8.toNat_ofNat']
  omega

theorem range1 : List.range 1 = [0] := rfl
theorem range2 : List.range 2 = [0, 1] := rfl
theorem range3 : List.range 3 = [0, 1, 2] := rfl
theorem range4 : List.range 4 = [0, 1, 2, 3] := rfl
theorem range5 : List.range 5 = [0, 1, 2, 3, 4] := rfl
theorem range6 : List.range 6 = [0, 1, 2, 3, 4, 5] := rfl

/-! A row that grows. -/
def rowApp (te : TI) (β L n : Nat) (src : List (List PV)) (nx : Nat) : Option Blk → Option Eff
  | some (.row true _ es) => if L = es.length ∧ n = 0 then freshEff te (.row β L 0 n) src β nx nx else none
  | some (.row false sz es) =>
    if L = es.length ∧ sz = te.size ∧ roomOK (n + src.length) te.bytes = true then
      if n = es.length then some (.row β (es ++ src).length 0 (es ++ src).length, [(β, .row false te.size (es ++ src))], nx)
      else some (.row β (es.take n ++ src ++ es.drop (n + src.length)).length 0 (n + src.length), [(β, .row false te.size (es.take n ++ src ++ es.drop (n + src.length)))], nx)
    else none
  | _ => none

theorem rowApp_F (te : TI) (β L n nx sz : Nat) (es src : List (List PV)) : rowApp te β L n src nx (some (.row false sz es)) =
    if L = es.length ∧ sz = te.size ∧ roomOK (n + src.length) te.bytes = true then
      if n = es.length then some (.row β (es ++ src).length 0 (es ++ src).length, [(β, .row false te.size (es ++ src))], nx)
      else some (.row β (es.take n ++ src ++ es.drop (n + src.length)).length 0 (n + src.length), [(β, .row false te.size (es.take n ++ src ++ es.drop (n + src.length)))], nx)
    else none := rfl
theorem rowApp_T (te : TI) (β L n nx sz : Nat) (es src : List (List PV)) : rowApp te β L n src nx (some (.row true sz es)) = if L = es.length ∧ n = 0 then freshEff te (.row β L 0 n) src β nx nx else none := rfl

def rowApp0 (te : TI) (β L n : Nat) (H : Heap) (nx : Nat) : Option (Nat × List (List PV)) → Option Eff
  | none => none
  | some (xsz, src) => if (xsz = te.size ∨ src = []) ∧ 0 < te.size then rowApp te β L n src nx (H.get β) else none

theorem aAppend_row (te : TI) (β L n : Nat) (x : AV) (H : Heap) (nx : Nat) : aAppend te (.row β L 0 n) x H nx = rowApp0 te β L n H nx (sliceOf x H) := by
  unfold aAppend rowApp0
  cases sliceOf x H with
  | none => rfl
  | some p =>
    obtain ⟨xsz, src⟩ := p
    simp only
    split
    · unfold rowApp
      cases H.get β with
      | none => rfl
      | some b =>
        cases b with
        | row isnil sz es => cases isnil <;> simp
        | _ => rfl
    · rfl

theorem aAppend_nil (te : TI) (sz : Nat) (es : List (List PV)) (x : AV) (H : Heap) (nx : Nat) : aAppend te (.pv (.sl true sz es)) x H nx =
    match sliceOf x H with
    | none => none
    | some (xsz, src) => if (xsz = te.size ∨ src = []) ∧ 0 < te.size then freshEff te (.pv (.sl true sz es)) src nx nx (nx + 1) else none := rfl

theorem aAppend_zsl (te : TI) (x : AV) (H : Heap) (nx : Nat) : aAppend te .zsl x H nx =
    match sliceOf x H with
    | none => none
    | some (xsz, src) => if (xsz = te.size ∨ src = []) ∧ 0 < te.size then freshEff te .zsl src nx nx (nx + 1) else none := rfl

/-- Onto a row that was nil, or has grown: its block tells by its cells alone whether it is nil. -/
theorem rowApp_G (te : TI) (β k nx : Nat) (e : α → List PV) (l : List α) (c : List PV) (src : List (List PV)) (hk : k = te.size) (hr : roomOK (l.length + (c :: src).length) te.bytes = true) :
    rowApp te β l.length l.length (c :: src) nx (some (.row l.isEmpty (szc k l) (List.map e l))) =
      some (.row β (List.map e l ++ c :: src).length 0 (List.map e l ++ c :: src).length, [(β, .row false k (List.map e l ++ c :: src))], nx) := by
  subst hk
  cases l with
  | nil =>
    have hr' : roomOK (src.length + 1) te.bytes = true := by simpa using hr
    simp [rowApp, freshEff, hr']
  | cons a l =>
    have hr' : roomOK (l.length + 1 + (src.length + 1)) te.bytes = true := by simpa using hr
    simp [rowApp, szc, hr']

theorem rowApp_GB {γ : Type} (te : TI) (β k nx : Nat) (e : α → List PV) (e' : γ → List PV) (l : List α) (s : List γ) (hs : (l.isEmpty && s.isEmpty) = false) (hk : k = te.size) (hr : roomOK (l.length + s.length) te.bytes = true) :
    rowApp te β l.length l.length (List.map e' s) nx (some (.row l.isEmpty (szc k l) (List.map e l))) =
      some (.row β (List.map e l ++ List.map e' s).length 0 (List.map e l ++ List.map e' s).length, [(β, .row false k (List.map e l ++ List.map e' s))], nx) := by
  subst hk
  cases l with
  | nil =>
    cases s with
    | nil => simp at hs
    | cons c s =>
      have hr' : roomOK (s.length + 1) te.bytes = true := by simpa using hr
      simp [rowApp, freshEff, hr']
  | cons a l =>
    have hr' : roomOK (l.length + 1 + s.length) te.bytes = true := by simpa using hr
    simp [rowApp, szc, hr']

theorem rowApp_GA {γ : Type} (te : TI) (β k nx : Nat) (e : α → List PV) (e' : γ → List PV) (l : List α) (s : List γ) (hs : (l.isEmpty && s.isEmpty) = true) :
    rowApp te β l.length l.length (List.map e' s) nx (some (.row l.isEmpty (szc k l) (List.map e l))) = some (.row β l.length 0 l.length, [], nx) := by
  cases l with
  | nil =>
    cases s with
    | nil => simp [rowApp, freshEff]
    | cons c s => simp at hs
  | cons a l => simp at hs

theorem fresh_ne {γ : Type} (te : TI) (s : AV) (e' : γ → List PV) (xs : List γ) (b nx nx' : Nat) (hs : xs.isEmpty = false) (hr : roomOK xs.length te.bytes = true) :
    freshEff te s (List.map e' xs) b nx nx' = some (.row b xs.length 0 xs.length, [(b, .row false te.size (List.map e' xs))], nx') := by
  cases xs with
  | nil => simp at hs
  | cons c r =>
    have hr' : roomOK (r.length + 1) te.bytes = true := by simpa using hr
    simp [freshEff, hr']

theorem fresh_em {γ : Type} (te : TI) (s : AV) (e' : γ → List PV) (xs : List γ) (b nx nx' : Nat) (hs : xs.isEmpty = true) : freshEff te s (List.map e' xs) b nx nx' = some (s, [], nx) := by
  cases xs with
  | nil => rfl
  | cons c r => simp at hs

theorem app_ne {γ : Type} {l s : List γ} (h : (l.isEmpty && s.isEmpty) = false) : (l ++ s).isEmpty = false := by cases l <;> cases s <;> simp_all
theorem app_szc {γ : Type} {l s : List γ} (h : (l.isEmpty && s.isEmpty) = false) (k : Nat) : szc k (l ++ s) = k := by cases l <;> cases s <;> simp_all [szc]

/-- Onto a row that was made. -/
theorem rowApp_M (te : TI) (β k nx : Nat) (es src : List (List PV)) (L : Nat) (hL : L = es.length) (hk : k = te.size) (hr : roomOK (L + src.length) te.bytes = true) :
    rowApp te β L L src nx (some (.row false k es)) = some (.row β (es ++ src).length 0 (es ++ src).length, [(β, .row false k (es ++ src))], nx) := by
  subst hk hL
  simp [rowApp, hr]

end
/-! Maps of numbers to numbers: key, value, stamp. -/
structure MapII where
  es : List (Int × Int × Nat)
  clock : Nat
  deriving Inhabited

def entE (e : Int × Int × Nat) : PV × PV × Nat := (.int .i64 e.1, .int .i64 e.2.1, e.2.2)

def lfind (k : Int) : List (Int × Int × Nat) → Nat → Option (Nat × Int × Nat)
  | [], _ => none
  | (x, v, b) :: r, i => if k == x then some (i, v, b) else lfind k r (i + 1)

def mhas (m : MapII) (k : Int) : Bool := (lfind k m.es 0).isSome
def mget (m : MapII) (k : Int) : Int := match lfind k m.es 0 with | some (_, v, _) => v | none => 0
def mput (m : MapII) (k v : Int) : MapII := match lfind k m.es 0 with | some (i, _, b) => ⟨m.es.set i (k, v, b), m.clock⟩ | none => ⟨m.es ++ [(k, v, m.clock)], m.clock + 1⟩
def mborn (m : MapII) (k : Int) : Nat := match lfind k m.es 0 with | some (_, _, b) => b | none => m.clock
def ment (m : MapII) (k : Int) : MapII := match lfind k m.es 0 with | some (i, v, b) => ⟨m.es.set i (k, v, b), m.clock⟩ | none => ⟨m.es ++ [(k, 0, m.clock)], m.clock + 1⟩
def lstamp (born : Int) : List (Int × Int × Nat) → Nat → Option (Nat × Int × Nat)
  | [], _ => none
  | (k, _, b) :: r, i => if (b : Int) = born then some (i, k, b) else lstamp born r (i + 1)
def mstore (m : MapII) (born v : Int) : Option MapII := match lstamp born m.es 0 with | some (i, k, b) => some ⟨m.es.set i (k, v, b), m.clock⟩ | none => none
def mdel (m : MapII) (k : Int) : MapII := match lfind k m.es 0 with | some (i, _, _) => ⟨m.es.eraseIdx i, m.clock⟩ | none => m

theorem findKey_l (k : Int) : ∀ (l : List (Int × Int × Nat)) (i : Nat), findKey (.int .i64 k) (List.map entE l) i = some ((lfind k l i).map fun x => (x.1, .int .i64 x.2.1, x.2.2))
  | [], i => rfl
  | (x, v, b) :: r, i => by
    simp only [List.map_cons, entE, findKey, keyEq, lfind, if_true]
    cases h : (k == x) with
    | true => simp
    | false => simp only [findKey_l k r (i + 1)]; simp

theorem stampAt_l (born : Int) : ∀ (l : List (Int × Int × Nat)) (i : Nat), stampAt born (List.map entE l) i = (lstamp born l i).map fun x => (x.1, .int .i64 x.2.1, x.2.2)
  | [], i => rfl
  | (x, v, b) :: r, i => by
    simp only [List.map_cons, entE, stampAt, lstamp]
    split
    · rfl
    · exact stampAt_l born r (i + 1)

theorem erase_map {α β : Type} (e : α → β) : ∀ (l : List α) (i : Nat), (List.map e l).eraseIdx i = List.map e (l.eraseIdx i)
  | [], i => by simp
  | x :: l, 0 => rfl
  | x :: l, i + 1 => by simp [erase_map e l i]

def lookB (te : TI) (k : PV) (ok : Bool) : Option Blk → Option AV
  | some (.map es _) => match findKey k es 0 with
    | some (some (_, v, _)) => some (if ok then .tup [.pv v, .pv (.bool true)] else .pv v)
    | some none => some (if ok then .tup [.pv (pvAgg te), .pv (.bool false)] else .pv (pvAgg te))
    | none => none
  | _ => none
def updB (β : Nat) (k v : PV) : Option Blk → Option (List (Nat × Blk))
  | some (.map es clock) => match findKey k es 0 with
    | some (some (i, _, born)) => some [(β, .map (es.set i (k, v, born)) clock)]
    | some none => some [(β, .map (es ++ [(k, v, clock)]) (clock + 1))]
    | none => none
  | _ => none
def entB (te : TI) (β : Nat) (k : PV) : Option Blk → Option (AV × List (Nat × Blk))
  | some (.map es clock) => match findKey k es 0 with
    | some (some (i, v, born)) => some (.tup [.pv v, .pv (.int .i64 born)], [(β, .map (es.set i (k, v, born)) clock)])
    | some none => some (.tup [.pv (pvAgg te), .pv (.int .i64 clock)], [(β, .map (es ++ [(k, pvAgg te, clock)]) (clock + 1))])
    | none => none
  | _ => none
def storeB (β : Nat) (born : Int) (v : PV) : Option Blk → Option (List (Nat × Blk))
  | some (.map es clock) => match stampAt born es 0 with
    | some (i, k, b) => some [(β, .map (es.set i (k, v, b)) clock)]
    | none => none
  | _ => none
def delB (β : Nat) (k : PV) : Option Blk → Option (List (Nat × Blk))
  | some (.map es clock) => match findKey k es 0 with
    | some (some (i, _, _)) => some [(β, .map (es.eraseIdx i) clock)]
    | some none => some [(β, .map es clock)]
    | none => none
  | _ => none

theorem aLookup_B (tk te : TI) (β : Nat) (k : PV) (ok : Bool) (H : Heap) : aLookup tk te (.map β) (.pv k) ok H = if keyFits tk.td k = true then lookB te k ok (H.get β) else none := by
  unfold aLookup aFind
  simp only
  split
  · cases H.get β with
    | none => rfl
    | some b => cases b <;> rfl
  · rfl
theorem aUpdate_B (tk : TI) (β : Nat) (k v : PV) (H : Heap) : aUpdate tk (.map β) (.pv k) v H = if keyFits tk.td k = true then updB β k v (H.get β) else none := by
  unfold aUpdate
  simp only
  split
  · cases H.get β with
    | none => rfl
    | some b => cases b <;> rfl
  · rfl
theorem aEntry_B (tk te : TI) (β : Nat) (k : PV) (H : Heap) : aEntry tk te (.map β) (.pv k) H = if keyFits tk.td k = true then entB te β k (H.get β) else none := by
  unfold aEntry
  simp only
  split
  · cases H.get β with
    | none => rfl
    | some b => cases b <;> rfl
  · rfl
theorem aEntryStore_B (β : Nat) (kd : IntKind) (born : Int) (v : PV) (H : Heap) : aEntryStore (.map β) (.pv (.int kd born)) v H = storeB β born v (H.get β) := by
  unfold aEntryStore
  simp only
  cases H.get β with
  | none => rfl
  | some b => cases b <;> rfl
theorem aDelete_B (tk : TI) (β : Nat) (k : PV) (H : Heap) : aDelete tk (.map β) (.pv k) H = if keyFits tk.td k = true then delB β k (H.get β) else none := by
  unfold aDelete
  simp only
  split
  · cases H.get β with
    | none => rfl
    | some b => cases b <;> rfl
  · rfl

section
variable (b : Bool) (β : Nat) (m : MapII) (k : Int)

theorem mii_get : lookB ⟨1, 8, .int .i64, [.int .i64 0], b⟩ (.int .i64 k) false (some (.map (List.map entE m.es) m.clock)) = some (.pv (.int .i64 (mget m k))) := by
  simp only [lookB, findKey_l, mget]
  cases lfind k m.es 0 <;> simp [pvAgg, TI.isAgg]
theorem mii_get2 : lookB ⟨1, 8, .int .i64, [.int .i64 0], b⟩ (.int .i64 k) true (some (.map (List.map entE m.es) m.clock)) = some (.tup [.pv (.int .i64 (mget m k)), .pv (.bool (mhas m k))]) := by
  simp only [lookB, findKey_l, mget, mhas]
  cases lfind k m.es 0 <;> simp [pvAgg, TI.isAgg]
theorem mii_put (v : Int) : updB β (.int .i64 k) (.int .i64 v) (some (.map (List.map entE m.es) m.clock)) = some [(β, .map (List.map entE (mput m k v).es) (mput m k v).clock)] := by
  simp only [updB, findKey_l, mput]
  cases lfind k m.es 0 <;> simp [entE, List.map_set]
theorem mii_ent : entB ⟨1, 8, .int .i64, [.int .i64 0], b⟩ β (.int .i64 k) (some (.map (List.map entE m.es) m.clock)) = some (.tup [.pv (.int .i64 (mget m k)), .pv (.int .i64 (mborn m k))], [(β, .map (List.map entE (ment m k).es) (ment m k).clock)]) := by
  simp only [entB, findKey_l, ment, mget, mborn]
  cases lfind k m.es 0 <;> simp [entE, List.map_set, pvAgg, TI.isAgg]
theorem mii_store {m m' : MapII} {born v : Int} (h : mstore m born v = some m') : storeB β born (.int .i64 v) (some (.map (List.map entE m.es) m.clock)) = some [(β, .map (List.map entE m'.es) m'.clock)] := by
  unfold mstore at h
  simp only [storeB, stampAt_l]
  split at h
  · rename_i i k' b hl
    cases h
    simp [hl, entE, List.map_set]
  · cases h
theorem mii_del : delB β (.int .i64 k) (some (.map (List.map entE m.es) m.clock)) = some [(β, .map (List.map entE (mdel m k).es) (mdel m k).clock)] := by
  simp only [delB, findKey_l, mdel]
  cases h : lfind k m.es 0 <;> simp [erase_map]
end

/-- slices.Sorted(maps.Keys(m)). -/
def sortedKeys (m : MapII) : Option (List Int) := if keysFit (m.es.map (·.1)) (m.es.map (·.2.2)) m.clock then some (sortI (m.es.map (·.1))) else none

theorem keysI_ent : ∀ l : List (Int × Int × Nat), keysI (List.map entE l) = some (l.map (·.1))
  | [] => rfl
  | x :: r => by simp [entE, keysI, keysI_ent r]
theorem stampsOf_ent : ∀ l : List (Int × Int × Nat), stampsOf (List.map entE l) = l.map (·.2.2)
  | [] => rfl
  | x :: r => by simp [entE, stampsOf, stampsOf_ent r]
theorem spSorted_typed {m : MapII} {r : List Int} (h : sortedKeys m = some r) (fk : FuncId) :
    spSorted fk [.clo fk [] [.ptr 0 0]] [(0, .box [.map 1]), (1, .map (List.map entE m.es) m.clock)] = some (.row 2 r.length 0 r.length, [(0, .box [.map 1]), (1, .map (List.map entE m.es) m.clock), (2, .row r.isEmpty (szc 1 r) (List.map intE r))]) := by
  unfold sortedKeys at h
  split at h
  · rename_i hf
    cases h
    simp only [spSorted, keysI_ent, stampsOf_ent, hf, true_and, if_true]
    rfl
  · cases h

/-! What a map has behind a store. -/
theorem lfind_append (k : Int) : ∀ (l : List (Int × Int × Nat)) (e : Int × Int × Nat) (i : Nat), lfind k (l ++ [e]) i = match lfind k l i with | some x => some x | none => if k == e.1 then some (i + l.length, e.2.1, e.2.2) else none
  | [], e, i => by simp [lfind]
  | (x, v, b) :: r, e, i => by
    simp only [List.cons_append, lfind]
    split
    · rfl
    · rw [lfind_append k r e (i + 1)]
      simp only [List.length_cons]
      have : i + 1 + r.length = i + (r.length + 1) := by omega
      rw [this]
theorem lfind_set (k k' : Int) (v : Int) : ∀ (l : List (Int × Int × Nat)) (i j : Nat) (w : Int) (b : Nat), lfind k l i = some (i + j, w, b) →
    lfind k' (l.set j (k, v, b)) i = if k' == k then some (i + j, v, b) else lfind k' l i
  | [], i, j, w, b, h => by simp [lfind] at h
  | (x, u, c) :: r, i, j, w, b, h => by
    simp only [lfind] at h
    split at h
    · rename_i hk
      simp only [Option.some.injEq, Prod.mk.injEq] at h
      obtain ⟨h1, rfl, rfl⟩ := h
      have : j = 0 := by omega
      subst this
      simp only [beq_iff_eq] at hk
      subst hk
      simp only [List.set_cons_zero, lfind, Nat.add_zero]
      by_cases e : k' = k <;> simp [e]
    · rename_i hk
      have hge : ∀ (l : List (Int × Int × Nat)) (n m : Nat) (w : Int) (b : Nat), lfind k l n = some (m, w, b) → n ≤ m := by
        intro l
        induction l with
        | nil => intro n m w b h; simp [lfind] at h
        | cons y r ih =>
          intro n m w b h
          simp only [lfind] at h
          split at h
          · cases h; exact Nat.le_refl _
          · have := ih (n + 1) m w b h; omega
      have := hge r (i + 1) (i + j) w b h
      obtain ⟨j', rfl⟩ : ∃ j', j = j' + 1 := ⟨j - 1, by omega⟩
      have h' : lfind k r (i + 1) = some (i + 1 + j', w, b) := by rw [h]; congr 2; omega
      have ih := lfind_set k k' v r (i + 1) j' w b h'
      simp only [List.set_cons_succ, lfind, ih]
      by_cases e1 : k' = x
      · subst e1
        have : (k == k') = false := by simpa using hk
        have h2 : (k' == k) = false := by simp at this ⊢; exact fun h => this h.symm
        simp [h2]
      · have : (k' == x) = false := by simpa using e1
        simp only [this, Bool.false_eq_true, if_false]
        have : i + 1 + j' = i + (j' + 1) := by omega
        rw [this]

theorem lfind_put (m : MapII) (k v k' : Int) : lfind k' (mput m k v).es 0 = if k' == k then some (((lfind k (mput m k v).es 0).getD (0, 0, 0)).1, v, ((lfind k (mput m k v).es 0).getD (0, 0, 0)).2.2) else lfind k' m.es 0 := by
  unfold mput
  cases h : lfind k m.es 0 with
  | none =>
    simp only [lfind_append, h]
    by_cases e : k' = k
    · subst e; simp [h]
    · have : (k' == k) = false := by simpa using e
      simp only [this, Bool.false_eq_true, if_false]
      cases lfind k' m.es 0 <;> rfl
  | some x =>
    obtain ⟨i, w, b⟩ := x
    have h' : lfind k m.es 0 = some (0 + i, w, b) := by simpa using h
    simp only [lfind_set k k' v m.es 0 i w b h', lfind_set k k v m.es 0 i w b h']
    by_cases e : k' = k <;> simp [e]

theorem mget_put (m : MapII) (k v k' : Int) : mget (mput m k v) k' = if k' = k then v else mget m k' := by
  unfold mget
  rw [lfind_put]
  by_cases e : k' = k <;> simp [e]
theorem mhas_put (m : MapII) (k v k' : Int) : mhas (mput m k v) k' = if k' = k then true else mhas m k' := by
  unfold mhas
  rw [lfind_put]
  by_cases e : k' = k <;> simp [e]
theorem mhas_nil (k : Int) : mhas ⟨[], 0⟩ k = false := rfl
theorem mget_nil (k : Int) : mget ⟨[], 0⟩ k = 0 := rfl

/-! Looking up where one knows that there is something. -/
theorem geti_some {α : Type} {l : List α} {n : Nat} (h : n < l.length) : geti l (n : Int) = some l[n] := by simp [geti, h]
theorem geti_none {α : Type} {l : List α} {i : Int} (h : i < 0 ∨ (l.length : Int) ≤ i) : geti l i = none := by
  unfold geti
  split
  · simp; omega
  · rfl

/-! Rules that facts are brought to their form by. -/
theorem mcons {α β : Type} (f : α → β) (a : α) (l : List α) : List.map f (a :: l) = f a :: List.map f l := rfl
theorem mnil {α β : Type} (f : α → β) : List.map f ([] : List α) = [] := rfl
theorem lnil {α : Type} : ([] : List α).length = 0 := rfl
theorem lcons {α : Type} (a : α) (l : List α) : (a :: l).length = l.length + 1 := rfl
theorem lt_snoc {α : Type} (l : List α) (x : α) : (l.length < (l ++ [x]).length) = True := by simp
theorem lt_snocM {α β : Type} (f : α → β) (l : List α) (x : β) : (l.length < (List.map f l ++ [x]).length) = True := by simp
theorem lset {α : Type} (l : List α) (i : Nat) (x : α) : (l.set i x).length = l.length := List.length_set
def encx := PLift.up (And.intro @mcons (And.intro @mnil (And.intro @lnil (And.intro @lcons (And.intro @szc_nil (And.intro @szc_cons (And.intro @szc_snoc (And.intro @szc_set (And.intro @emp_nil (And.intro @emp_cons (And.intro @emp_snoc (And.intro @emp_set (And.intro @lset (And.intro @u8_nat @u8_wrap))))))))))))))

/-! What arguments read as. -/
theorem rdAny {α : Type} {P : Program} {t : TypeId} {e : α → List PV} {ok : α → Prop} {n : Nat} (h : Reads P t e ok n) : Reads P t e (fun _ => True) n := h.map (fun x => x) (fun _ _ => ⟨trivial, rfl⟩)
theorem rdNone {α : Type} {P : Program} {t : TypeId} {fs : Array Field} {e : α → List PV} {ok : α → Prop} (ht : P.underlying t = some (.struct fs)) : Reads P t e ok 0 := by
  intro H enc w base spare held fuel cs x hn hx
  obtain ⟨_, m, rfl, _⟩ := DataW.trod_struct ht hx
  omega
def pairE {α β : Type} (e1 : α → List PV) (e2 : β → List PV) (x : α × β) : List PV := e1 x.1 ++ e2 x.2
def trueOf {α : Type} (_ : α) : Prop := True
def nilE (_ : Unit) : List PV := []
theorem fCons {α β : Type} {P : Program} {f : Field} {fs : List Field} {e1 : α → List PV} {ok1 : α → Prop} {e2 : β → List PV} {n off c : Nat} (ho : f.offset = off) (hc : P.cellsOf f.type = c)
    (h1 : Reads P f.type e1 ok1 n) (h2 : ReadsFs P fs e2 trueOf n (off + c)) : ReadsFs P (f :: fs) (pairE e1 e2) trueOf n off := by
  intro H enc w base spare held fuel cs a b d
  obtain ⟨x, m, _, h⟩ := ReadsFs.cons ho hc h1 h2 H enc w base spare held fuel cs a b d
  exact ⟨x, m, trivial, h⟩
theorem fNil {P : Program} (n off : Nat) : ReadsFs P [] nilE trueOf n off := by
  intro H enc w base spare held fuel cs a b d
  obtain ⟨x, m, _, h⟩ := ReadsFs.nil (P := P) n off H enc w base spare held fuel cs a b d
  exact ⟨x, m, trivial, h⟩
theorem rdByte {P : Program} {t : TypeId} (ht : P.underlying t = some (.int .u8)) (hc : P.cellsOf t = 1) (n : Nat) : Reads P t byteE (fun _ => True) n :=
  (Reads.int ht hc n).map u8 (fun x hx => ⟨trivial, by
    simp [Lit.wf, IntKind.min, IntKind.max, IntKind.signed, IntKind.bits] at hx
    simp only [byteE, u8, UInt8.toNat_ofNat', List.cons.injEq, PV.int.injEq, true_and, and_true]
    omega⟩)
theorem rdSl {α : Type} {P : Program} {t el : TypeId} {sz : Nat} {e : α → List PV} {ok : α → Prop} {n : Nat} (ht : P.underlying t = some (.slice el)) (hc : P.cellsOf t = 1) (hsz : P.cellsOf el = sz) (hpos : 0 < sz)
    (h : Reads P el e ok n) : Reads P t (slE sz e) (fun _ => True) n :=
  ((Reads.slice ht hc hsz hpos h).map (fun x => (⟨x.1 && x.2.isEmpty, x.2⟩ : Sl α)) (fun x _ => ⟨trivial, by simp [slE, slP, emp_map, szc_map]⟩)).mono (Nat.le_succ n)

/-! .. and what is known of it: numbers fit, nothing is too long. -/
def inI (n : Int) : Prop := -9223372036854775808 ≤ n ∧ n ≤ 9223372036854775807
def strOk (s : Bytes) : Prop := s.length ≤ maxLen
def slOk {α : Type} (ok : α → Prop) (s : Sl α) : Prop := (s.l.length ≤ maxLen ∧ (s.nil = true → s.l = [])) ∧ ∀ a ∈ s.l, ok a
def pairOk {α β : Type} (o1 : α → Prop) (o2 : β → Prop) (x : α × β) : Prop := o1 x.1 ∧ o2 x.2
theorem gCons {α β : Type} {P : Program} {f : Field} {fs : List Field} {e1 : α → List PV} {ok1 : α → Prop} {e2 : β → List PV} {ok2 : β → Prop} {n off c : Nat} (ho : f.offset = off) (hc : P.cellsOf f.type = c)
    (h1 : Reads P f.type e1 ok1 n) (h2 : ReadsFs P fs e2 ok2 n (off + c)) : ReadsFs P (f :: fs) (pairE e1 e2) (pairOk ok1 ok2) n off := by
  intro H enc w base spare held fuel cs a b d
  obtain ⟨x, m, h0, h⟩ := ReadsFs.cons ho hc h1 h2 H enc w base spare held fuel cs a b d
  exact ⟨x, m, h0, h⟩
theorem rkInt {P : Program} {t : TypeId} (ht : P.underlying t = some (.int .i64)) (hc : P.cellsOf t = 1) (n : Nat) : Reads P t intE inI n :=
  (Reads.int ht hc n).map (fun x => x) (fun x hx => ⟨by
    simp [Lit.wf, IntKind.min, IntKind.max, IntKind.signed, IntKind.bits] at hx
    exact hx, rfl⟩)
theorem rkSl {α : Type} {P : Program} {t el : TypeId} {sz : Nat} {e : α → List PV} {ok : α → Prop} {n : Nat} (ht : P.underlying t = some (.slice el)) (hc : P.cellsOf t = 1) (hsz : P.cellsOf el = sz) (hpos : 0 < sz)
    (h : Reads P el e ok n) : Reads P t (slE sz e) (slOk ok) n :=
  ((Reads.slice ht hc hsz hpos h).map (fun x => (⟨x.1 && x.2.isEmpty, x.2⟩ : Sl α)) (fun x hx => ⟨⟨⟨hx.1, by simp⟩, hx.2⟩, by simp [slE, slP, emp_map, szc_map]⟩)).mono (Nat.le_succ n)

/-! Lists that are walked through. -/
theorem drop_cons {α : Type} {xs : List α} {i : Nat} {x : α} {r : List α} (h : xs.drop i = x :: r) : xs[i]? = some x ∧ xs.drop (i + 1) = r ∧ i < xs.length := by
  have h1 : xs[i]? = some x := by
    have := congrArg (fun l => l[0]?) h
    simpa using this
  have h2 : xs.drop (i + 1) = r := by
    have := congrArg (fun l => l.drop 1) h
    simpa [List.drop_drop] using this
  exact ⟨h1, h2, (List.getElem?_eq_some_iff.1 h1).1⟩

theorem drop_none {α : Type} {xs : List α} {i : Nat} (h : xs.drop i = []) : xs.length ≤ i := by simpa using h

theorem map_at {α β : Type} {f : α → β} {xs : List α} {i : Nat} {x : α} (h : xs[i]? = some x) : (xs.map f)[i]? = some (f x) := by simp [h]

theorem wrap_in {n : Int} (h1 : -9223372036854775808 ≤ n) (h2 : n ≤ 9223372036854775807) : IntKind.i64.wrap n = n := IntWalk.i64_in n ⟨h1, h2⟩

theorem wrap_nat {n : Nat} (h : n < 9223372036854775808) : IntKind.i64.wrap (n : Int) = (n : Int) := wrap_in (by omega) (by omega)
theorem wrap_succ {n : Nat} (h : n < 9223372036854775807) : IntKind.i64.wrap ((n : Int) + 1) = ((n + 1 : Nat) : Int) := wrap_in (by omega) (by omega)

end Go.Gm

/-
  The rules to rewrite by, bundled.
-/
namespace Go.Gm
open Go
def coreA0 := PLift.up (And.intro (And.intro (And.intro (And.intro (And.intro (@X_nil) (@X_uptoN)) (And.intro (@X_uptoR) (@X_uptoE))) (And.intro (And.intro (@X_codeR) (@X_codeE)) (And.intro (@X_skip) (@X_ret)))) (And.intro (And.intro (And.intro (@X_exit) (@X_seq)) (And.intro (@X_cond) (@X_blockS))) (And.intro (And.intro (@X_blockB) (@X_blockC)) (And.intro (@X_blockR) (@X_blockX))))) (And.intro (And.intro (And.intro (And.intro (@X_blockK) (@X_blockT)) (And.intro (@X_loop) (@X_region))) (And.intro (And.intro (@Y_nil) (@Y_op)) (And.intro (@effX_some) (@effX_none)))) (And.intro (And.intro (And.intro (@natOf_nat) (@natOf_zero)) (And.intro (@natOf_one) (@freezes.eq_1))) (And.intro (And.intro (@freezes.eq_2) (@ev.eq_1)) (And.intro (@ev.eq_2) (@ev.eq_3))))))
def coreA1 := PLift.up (And.intro (And.intro (And.intro (And.intro (And.intro (@ev.eq_4) (@Env.get.eq_1)) (And.intro (@Env.get.eq_2) (@putE.eq_1))) (And.intro (And.intro (@putE.eq_2) (@putAll.eq_1)) (And.intro (@putAll.eq_2) (@aIndexAddr.eq_1)))) (And.intro (And.intro (And.intro (@valEff.eq_1) (@valEff.eq_2)) (And.intro (@pvEff.eq_1) (@pvEff.eq_2))) (And.intro (And.intro (@skipEff.eq_1) (@skipEff.eq_2)) (And.intro (@ldP.eq_1) (@ldP.eq_2))))) (And.intro (And.intro (And.intro (And.intro (@ldA.eq_1) (@ldA.eq_2)) (And.intro (@TI.isAgg.eq_1) (@mkAgg.eq_1))) (And.intro (And.intro (@Heap.get.eq_1) (@Heap.get.eq_2)) (And.intro (@Heap.put.eq_1) (@Heap.put.eq_2)))) (And.intro (And.intro (And.intro (@callO.eq_1) (@AV.refs.refsL.eq_1)) (And.intro (@AV.refs.refsL.eq_2) (@AV.ren.renL.eq_1))) (And.intro (And.intro (@AV.ren.renL.eq_2) (@keysOK.eq_1)) (And.intro (@keysOK.eq_2) (@renHeap.eq_1))))))
def coreA2 := PLift.up (And.intro (And.intro (And.intro (And.intro (And.intro (@renHeap.eq_2) (@roundEnd_N)) (And.intro (@roundEnd_E) (@roundEnd_R))) (And.intro (And.intro (@narrow.eq_1) (@narrowOr.eq_1)) (And.intro (@restrict.eq_1) (@restrict.eq_2)))) (And.intro (And.intro (And.intro (@Heap.upto.eq_1) (@Heap.upto.eq_2)) (And.intro (@Heap.below.eq_1) (@Heap.below.eq_2))) (And.intro (And.intro (@Env.below.eq_1) (@Env.below.eq_2)) (And.intro (@belowAll.eq_1) (@belowAll.eq_2))))) (And.intro (And.intro (And.intro (And.intro (@decide_true) (@and_self)) (And.intro (@AV.rows.rowsL.eq_1) (@AV.rows.rowsL.eq_2))) (And.intro (And.intro (@Nat.zero_lt_one) (@Nat.lt_add_one)) (And.intro (@Nat.zero_le) (@Nat.le_refl)))) (And.intro (And.intro (And.intro (@Nat.zero_add) (@Nat.add_zero)) (And.intro (@and_true) (@true_and))) (And.intro (And.intro (@Bool.and_true) (@Bool.true_and)) (And.intro (@decide_false) (@Bool.false_eq_true))))))
def coreA3 := PLift.up (And.intro (And.intro (And.intro (And.intro (And.intro (@argEnv.eq_1) (@argEnv.eq_2)) (And.intro (@fnEnd_N) (@fnEnd_R))) (And.intro (And.intro (@resAll.eq_1) (@resAll.eq_2)) (And.intro (@resOf.eq_1) (@resOf.eq_2)))) (And.intro (And.intro (And.intro (@finish.eq_1) (@List.range_zero)) (And.intro (@pos.eq_1) (@pos.eq_2))) (And.intro (And.intro (@reach.eq_1) (@reach.eq_2)) (And.intro (@reach.eq_3) (@enter.eq_1))))) (And.intro (And.intro (And.intro (And.intro (@promote.eq_1) (@promote.eq_2)) (And.intro (@promoteIn.eq_1) (@promoteIn.eq_2))) (And.intro (And.intro (@rowsAt.eq_1) (@rowsAt.eq_2)) (And.intro (@setEnv.eq_1) (@setEnv.eq_2)))) (And.intro (And.intro (And.intro (@X_regionD) (@Z_nil)) (And.intro (@Z_op) (@Z_guard))) (And.intro (And.intro (@effD_some) (@Y_guard)) (And.intro (@guard_some) (@Bool.not_false))))))
def coreA4 := PLift.up (And.intro (And.intro (And.intro (And.intro (And.intro (@Bool.not_true) (@Bool.or_self)) (And.intro (@Bool.or_false) (@Bool.false_or))) (And.intro (And.intro (@Bool.or_true) (@Bool.true_or)) (And.intro (@bool_ff) (@bool_ft)))) (And.intro (And.intro (And.intro (@bool_tf) (@Bool.and_self)) (And.intro (@Bool.and_false) (@Bool.false_and))) (And.intro (And.intro (@Int.toNat_natCast) (@Int.natCast_add)) (And.intro (@Int.natCast_one) (@Int.zero_add))))) (And.intro (And.intro (And.intro (And.intro (@fillRow.eq_1) (@fillRow.eq_2)) (And.intro (@Nat.mul_one) (@Nat.one_mul))) (And.intro (And.intro (@true_or) (@or_true)) (And.intro (@false_or) (@or_false)))) (And.intro (And.intro (And.intro (@or_self) (@and_false)) (And.intro (@false_and) (@freeze.eq_1))) (And.intro (And.intro (@AV.thaw.thawL.eq_1) (@AV.thaw.thawL.eq_2)) (And.intro (@optNat.eq_1) (@optNat.eq_2))))))
def coreA5 := PLift.up (And.intro (And.intro (And.intro (And.intro (And.intro (@aBuild.eq_1) (@fillA.eq_1)) (And.intro (@fillA.eq_2) (@fieldPlaces.eq_1))) (And.intro (And.intro (@closedIn.eq_1) (@closedIn.eq_2)) (And.intro (@pick.eq_1) (@pick.eq_2)))) (And.intro (And.intro (And.intro (@subN.eq_1) (@subN.eq_2)) (And.intro (@memN.eq_1) (@memN.eq_2))) (And.intro (And.intro (@blkAt.eq_1) (@backTo.eq_1)) (And.intro (@freshEff.eq_1) (@freshEff.eq_2))))) (And.intro (And.intro (And.intro (And.intro (@aAppend.eq_1) (@roomOK.eq_1)) (And.intro (@findKey.eq_1) (@findKey.eq_2))) (And.intro (And.intro (@pvAgg.eq_1) (@stampAt.eq_1)) (And.intro (@stampAt.eq_2) (@mapTypes.eq_1)))) (And.intro (And.intro (And.intro (@loopX_some) (@enterL_0)) (And.intro (@enterL_1) (@enterL_2))) (And.intro (And.intro (@enterL_3) (@enterL_4)) (And.intro (@again_0) (@again_1))))))
def coreA6 := PLift.up (And.intro (And.intro (And.intro (And.intro (@again_2) (@again_3)) (And.intro (@again_4) (@leave_0))) (And.intro (And.intro (@leave_1) (@leave_2)) (And.intro (@leave_3) (@leave_4)))) (And.intro (And.intro (And.intro (@sized_some) (@left_S)) (And.intro (@canon.eq_1) (@renE.eq_1))) (And.intro (And.intro (@renE.eq_2) (@refsE.eq_1)) (And.intro (@refsE.eq_2) (And.intro (@pvOfs.eq_1) (@pvOfs.eq_2))))))
def coreG0 := PLift.up (And.intro (And.intro (And.intro (And.intro (And.intro (@X_nil) (@X_uptoN)) (And.intro (@X_uptoR) (@X_uptoE))) (And.intro (And.intro (@X_codeR) (@X_codeE)) (And.intro (@X_skip) (@X_ret)))) (And.intro (And.intro (And.intro (@X_exit) (@X_seq)) (And.intro (@X_cond) (@X_blockS))) (And.intro (And.intro (@X_blockB) (@X_blockC)) (And.intro (@X_blockR) (@X_blockX))))) (And.intro (And.intro (And.intro (And.intro (@X_blockK) (@X_blockT)) (And.intro (@X_loop) (@X_region))) (And.intro (And.intro (@Y_nil) (@Y_op)) (And.intro (@effX_some) (@effX_none)))) (And.intro (And.intro (And.intro (@freezes.eq_1) (@freezes.eq_2)) (And.intro (@ev.eq_1) (@ev.eq_2))) (And.intro (And.intro (@ev.eq_3) (@ev.eq_4)) (And.intro (@Env.get.eq_1) (@Env.get.eq_2))))))
def coreG1 := PLift.up (And.intro (And.intro (And.intro (And.intro (And.intro (@putE.eq_1) (@putE.eq_2)) (And.intro (@putAll.eq_1) (@putAll.eq_2))) (And.intro (And.intro (@aIndexAddr.eq_1) (@valEff.eq_1)) (And.intro (@valEff.eq_2) (@pvEff.eq_1)))) (And.intro (And.intro (And.intro (@pvEff.eq_2) (@skipEff.eq_1)) (And.intro (@skipEff.eq_2) (@ldP.eq_1))) (And.intro (And.intro (@ldP.eq_2) (@ldA.eq_1)) (And.intro (@ldA.eq_2) (@TI.isAgg.eq_1))))) (And.intro (And.intro (And.intro (And.intro (@mkAgg.eq_1) (@Heap.get.eq_1)) (And.intro (@Heap.get.eq_2) (@Heap.put.eq_1))) (And.intro (And.intro (@Heap.put.eq_2) (@callO.eq_1)) (And.intro (@AV.refs.refsL.eq_1) (@AV.refs.refsL.eq_2)))) (And.intro (And.intro (And.intro (@AV.ren.renL.eq_1) (@AV.ren.renL.eq_2)) (And.intro (@keysOK.eq_1) (@keysOK.eq_2))) (And.intro (And.intro (@renHeap.eq_1) (@renHeap.eq_2)) (And.intro (@roundEnd_N) (@roundEnd_E))))))
def coreG2 := PLift.up (And.intro (And.intro (And.intro (And.intro (And.intro (@roundEnd_R) (@narrow.eq_1)) (And.intro (@narrowOr.eq_1) (@restrict.eq_1))) (And.intro (And.intro (@restrict.eq_2) (@Heap.upto.eq_1)) (And.intro (@Heap.upto.eq_2) (@Heap.below.eq_1)))) (And.intro (And.intro (And.intro (@Heap.below.eq_2) (@Env.below.eq_1)) (And.intro (@Env.below.eq_2) (@belowAll.eq_1))) (And.intro (And.intro (@belowAll.eq_2) (@decide_true)) (And.intro (@and_self) (@AV.rows.rowsL.eq_1))))) (And.intro (And.intro (And.intro (And.intro (@AV.rows.rowsL.eq_2) (@Nat.zero_lt_one)) (And.intro (@Nat.lt_add_one) (@Nat.zero_le))) (And.intro (And.intro (@Nat.le_refl) (@Nat.zero_add)) (And.intro (@Nat.add_zero) (@and_true)))) (And.intro (And.intro (And.intro (@true_and) (@Bool.and_true)) (And.intro (@Bool.true_and) (@decide_false))) (And.intro (And.intro (@Bool.false_eq_true) (@argEnv.eq_1)) (And.intro (@argEnv.eq_2) (@fnEnd_N))))))
def coreG3 := PLift.up (And.intro (And.intro (And.intro (And.intro (And.intro (@fnEnd_R) (@resAll.eq_1)) (And.intro (@resAll.eq_2) (@resOf.eq_1))) (And.intro (And.intro (@resOf.eq_2) (@finish.eq_1)) (And.intro (@List.range_zero) (@pos.eq_1)))) (And.intro (And.intro (And.intro (@pos.eq_2) (@reach.eq_1)) (And.intro (@reach.eq_2) (@reach.eq_3))) (And.intro (And.intro (@enter.eq_1) (@promote.eq_1)) (And.intro (@promote.eq_2) (@promoteIn.eq_1))))) (And.intro (And.intro (And.intro (And.intro (@promoteIn.eq_2) (@rowsAt.eq_1)) (And.intro (@rowsAt.eq_2) (@setEnv.eq_1))) (And.intro (And.intro (@setEnv.eq_2) (@X_regionD)) (And.intro (@Z_nil) (@Z_op)))) (And.intro (And.intro (And.intro (@Z_guard) (@effD_some)) (And.intro (@Y_guard) (@guard_some))) (And.intro (And.intro (@Bool.not_false) (@Bool.not_true)) (And.intro (@Bool.or_self) (@Bool.or_false))))))
def coreG4 := PLift.up (And.intro (And.intro (And.intro (And.intro (And.intro (@Bool.false_or) (@Bool.or_true)) (And.intro (@Bool.true_or) (@bool_ff))) (And.intro (And.intro (@bool_ft) (@bool_tf)) (And.intro (@Bool.and_self) (@Bool.and_false)))) (And.intro (And.intro (And.intro (@Bool.false_and) (@fillRow.eq_1)) (And.intro (@fillRow.eq_2) (@Nat.mul_one))) (And.intro (And.intro (@Nat.one_mul) (@true_or)) (And.intro (@or_true) (@false_or))))) (And.intro (And.intro (And.intro (And.intro (@or_false) (@or_self)) (And.intro (@and_false) (@false_and))) (And.intro (And.intro (@freeze.eq_1) (@AV.thaw.thawL.eq_1)) (And.intro (@AV.thaw.thawL.eq_2) (@optNat.eq_1)))) (And.intro (And.intro (And.intro (@optNat.eq_2) (@aBuild.eq_1)) (And.intro (@fillA.eq_1) (@fillA.eq_2))) (And.intro (And.intro (@fieldPlaces.eq_1) (@closedIn.eq_1)) (And.intro (@closedIn.eq_2) (@pick.eq_1))))))
def coreG5 := PLift.up (And.intro (And.intro (And.intro (And.intro (And.intro (@pick.eq_2) (@subN.eq_1)) (And.intro (@subN.eq_2) (@memN.eq_1))) (And.intro (And.intro (@memN.eq_2) (@blkAt.eq_1)) (And.intro (@backTo.eq_1) (@freshEff.eq_1)))) (And.intro (And.intro (And.intro (@freshEff.eq_2) (@pvAgg.eq_1)) (And.intro (@mapTypes.eq_1) (@loopX_some))) (And.intro (And.intro (@enterL_0) (@enterL_1)) (And.intro (@enterL_2) (@enterL_3))))) (And.intro (And.intro (And.intro (And.intro (@enterL_4) (@again_0)) (And.intro (@again_1) (@again_2))) (And.intro (And.intro (@again_3) (@again_4)) (And.intro (@leave_0) (@leave_1)))) (And.intro (And.intro (And.intro (@leave_2) (@leave_3)) (And.intro (@leave_4) (@sized_some))) (And.intro (And.intro (@left_S) (@canon.eq_1)) (And.intro (@renE.eq_1) (@renE.eq_2))))))
def coreG6 := PLift.up (And.intro (And.intro (And.intro (And.intro (And.intro (@refsE.eq_1) (@refsE.eq_2)) (And.intro (@pvOfs.eq_1) (@pvOfs.eq_2))) (And.intro (And.intro (@mkSl.eq_1) (@szc_map)) (And.intro (@szc_szc) (@szc_nil)))) (And.intro (And.intro (And.intro (@szc_cons) (@szc_snoc)) (And.intro (@szc_set) (@emp_map))) (And.intro (And.intro (@emp_snoc) (@emp_set)) (And.intro (@emp_cons) (@emp_nil))))) (And.intro (And.intro (And.intro (And.intro (@take_len) (@map_byte)) (And.intro (@aAppend_row) (@aAppend_nil))) (And.intro (And.intro (@aAppend_zsl) (@rowApp0.eq_1)) (And.intro (@rowApp0.eq_2) (@kE.eq_1)))) (And.intro (And.intro (And.intro (@bool_tt) (@rowApp_F)) (And.intro (@rowApp_T) (@range1))) (And.intro (And.intro (@range2) (@range3)) (And.intro (@range4) (@range5))))))
def coreG7 := PLift.up (And.intro (And.intro (And.intro (@range6) (@aLookup_B)) (And.intro (@aUpdate_B) (@aEntry_B))) (And.intro (And.intro (@aEntryStore_B) (@aDelete_B)) (And.intro (@lset) (And.intro (@lt_snoc) (@lt_snocM)))))
def core := PLift.up (And.intro (And.intro (coreA0.down) (And.intro (coreA1.down) (coreA2.down))) (And.intro (And.intro (coreA3.down) (coreA4.down)) (And.intro (coreA5.down) (coreA6.down))))
def coreB := PLift.up (And.intro (And.intro (And.intro (@wrap_in) (And.intro (@natOf_pos) (@toNat_succ))) (And.intro (And.intro (@dlt_t) (@dlt_f)) (And.intro (@dle_t) (@dle_f)))) (And.intro (And.intro (And.intro (@beq_t) (@beq_f)) (And.intro (@bne_t) (@bne_f))) (And.intro (And.intro (@nle_t) (@nle_f)) (And.intro (@nlt_t) (@nlt_f)))))
def coreG := PLift.up (And.intro (And.intro (And.intro (coreG0.down) (coreG1.down)) (And.intro (coreG2.down) (coreG3.down))) (And.intro (And.intro (coreG4.down) (coreG5.down)) (And.intro (coreG6.down) (coreG7.down))))
end Go.Gm
