/-
  Go's structs as Lean's.
-/
import Derived.Test.YtmlmgbnhaenabaaLd
set_option linter.unusedSimpArgs false
set_option linter.unusedVariables false
set_option maxRecDepth 100000
namespace Go.Proofs.Ytmlmgbnhaenabaa
open Go Go.Gm
structure T.Row where
  frm : Bytes
  to : Bytes
  deriving Inhabited, DecidableEq
def T.Row.enc (x : T.Row) : List PV :=
  [PV.str x.frm, PV.str x.to]
theorem T.Row.enc_eq (x : T.Row) : x.enc = [PV.str x.frm, PV.str x.to] := rfl
def T.Row.ok (x : T.Row) : Prop := strOk x.frm ∧ strOk x.to ∧ True
structure T.Rx where
  kind : Int
  char : Bytes
  not : Bool
  rows : (Sl T.Row)
  min : Int
  max : Int
  lazy : Bool
  kids : (Sl T.Rx)
  deriving Inhabited
mutual
def T.Rx.enc : T.Rx → List PV
  | ⟨x0, x1, x2, x3, x4, x5, x6, x7⟩ => [PV.int IntKind.i64 x0, PV.str x1, PV.bool x2, PV.sl x3.nil (szc 2 x3.l) (List.map T.Row.enc x3.l), PV.int IntKind.i64 x4, PV.int IntKind.i64 x5, PV.bool x6, T.Rx.encS x7]
def T.Rx.encS : Sl T.Rx → PV
  | ⟨b, l⟩ => .sl b (szc 8 l) (T.Rx.encL l)
def T.Rx.encL : List T.Rx → List (List PV)
  | [] => []
  | x :: r => x.enc :: T.Rx.encL r
end
theorem T.Rx.encL_map : ∀ l : List T.Rx, T.Rx.encL l = l.map T.Rx.enc
  | [] => rfl
  | x :: r => by simp [T.Rx.encL, T.Rx.encL_map r]
theorem T.Rx.encS_eq (s : Sl T.Rx) : T.Rx.encS s = .sl s.nil (szc 8 s.l) (s.l.map T.Rx.enc) := by cases s; simp [T.Rx.encS, T.Rx.encL_map]
theorem T.Rx.enc_eq (x : T.Rx) : x.enc = [PV.int IntKind.i64 x.kind, PV.str x.char, PV.bool x.not, PV.sl x.rows.nil (szc 2 x.rows.l) (List.map T.Row.enc x.rows.l), PV.int IntKind.i64 x.min, PV.int IntKind.i64 x.max, PV.bool x.lazy, PV.sl x.kids.nil (szc 8 x.kids.l) (List.map T.Rx.enc x.kids.l)] := by cases x; simp [T.Rx.enc, T.Rx.encS_eq]
mutual
def T.Rx.ok : T.Rx → Prop
  | ⟨x0, x1, x2, x3, x4, x5, x6, x7⟩ => inI x0 ∧ strOk x1 ∧ trueOf x2 ∧ (slOk T.Row.ok) x3 ∧ inI x4 ∧ inI x5 ∧ trueOf x6 ∧ T.Rx.okS x7 ∧ True
def T.Rx.okS : Sl T.Rx → Prop
  | ⟨b, l⟩ => (l.length ≤ maxLen ∧ (b = true → l = [])) ∧ T.Rx.okL l
def T.Rx.okL : List T.Rx → Prop
  | [] => True
  | x :: r => x.ok ∧ T.Rx.okL r
end
theorem T.Rx.okL_iff : ∀ l : List T.Rx, T.Rx.okL l ↔ ∀ a ∈ l, a.ok
  | [] => by simp [T.Rx.okL]
  | x :: r => by simp [T.Rx.okL, T.Rx.okL_iff r]
theorem T.Rx.okS_iff (s : Sl T.Rx) : T.Rx.okS s ↔ slOk T.Rx.ok s := by cases s; simp [T.Rx.okS, slOk, T.Rx.okL_iff]
theorem T.Rx.ok_eq (x : T.Rx) : x.ok ↔ (inI x.kind ∧ strOk x.char ∧ trueOf x.not ∧ (slOk T.Row.ok) x.rows ∧ inI x.min ∧ inI x.max ∧ trueOf x.lazy ∧ (slOk T.Rx.ok) x.kids ∧ True) := by cases x; simp only [T.Rx.ok, T.Rx.okS_iff]
structure T.Fmt where
  kind : Int
  n : Int
  cas : Int
  thn : Bytes
  els : Bytes
  deriving Inhabited, DecidableEq
def T.Fmt.enc (x : T.Fmt) : List PV :=
  [PV.int IntKind.i64 x.kind, PV.int IntKind.i64 x.n, PV.int IntKind.i64 x.cas, PV.str x.thn, PV.str x.els]
theorem T.Fmt.enc_eq (x : T.Fmt) : x.enc = [PV.int IntKind.i64 x.kind, PV.int IntKind.i64 x.n, PV.int IntKind.i64 x.cas, PV.str x.thn, PV.str x.els] := rfl
def T.Fmt.ok (x : T.Fmt) : Prop := inI x.kind ∧ inI x.n ∧ inI x.cas ∧ strOk x.thn ∧ strOk x.els ∧ True
structure T.Form where
  rx : T.Rx
  fmts : (Sl T.Fmt)
  fold : Bool
  all : Bool
  deriving Inhabited
def T.Form.enc (x : T.Form) : List PV :=
  [PV.int IntKind.i64 x.rx.kind, PV.str x.rx.char, PV.bool x.rx.not, PV.sl x.rx.rows.nil (szc 2 x.rx.rows.l) (List.map T.Row.enc x.rx.rows.l), PV.int IntKind.i64 x.rx.min, PV.int IntKind.i64 x.rx.max, PV.bool x.rx.lazy, PV.sl x.rx.kids.nil (szc 8 x.rx.kids.l) (List.map T.Rx.enc x.rx.kids.l), PV.sl x.fmts.nil (szc 5 x.fmts.l) (List.map T.Fmt.enc x.fmts.l), PV.bool x.fold, PV.bool x.all]
theorem T.Form.enc_eq (x : T.Form) : x.enc = [PV.int IntKind.i64 x.rx.kind, PV.str x.rx.char, PV.bool x.rx.not, PV.sl x.rx.rows.nil (szc 2 x.rx.rows.l) (List.map T.Row.enc x.rx.rows.l), PV.int IntKind.i64 x.rx.min, PV.int IntKind.i64 x.rx.max, PV.bool x.rx.lazy, PV.sl x.rx.kids.nil (szc 8 x.rx.kids.l) (List.map T.Rx.enc x.rx.kids.l), PV.sl x.fmts.nil (szc 5 x.fmts.l) (List.map T.Fmt.enc x.fmts.l), PV.bool x.fold, PV.bool x.all] := rfl
def T.Form.ok (x : T.Form) : Prop := T.Rx.ok x.rx ∧ (slOk T.Fmt.ok) x.fmts ∧ trueOf x.fold ∧ trueOf x.all ∧ True
structure T.Snip where
  kind : Int
  text : Bytes
  n : Int
  has : Bool
  turned : Bool
  form : T.Form
  opts : (Sl Bytes)
  kids : (Sl T.Snip)
  deriving Inhabited
mutual
def T.Snip.enc : T.Snip → List PV
  | ⟨x0, x1, x2, x3, x4, x5, x6, x7⟩ => [PV.int IntKind.i64 x0, PV.str x1, PV.int IntKind.i64 x2, PV.bool x3, PV.bool x4, PV.int IntKind.i64 x5.rx.kind, PV.str x5.rx.char, PV.bool x5.rx.not, PV.sl x5.rx.rows.nil (szc 2 x5.rx.rows.l) (List.map T.Row.enc x5.rx.rows.l), PV.int IntKind.i64 x5.rx.min, PV.int IntKind.i64 x5.rx.max, PV.bool x5.rx.lazy, PV.sl x5.rx.kids.nil (szc 8 x5.rx.kids.l) (List.map T.Rx.enc x5.rx.kids.l), PV.sl x5.fmts.nil (szc 5 x5.fmts.l) (List.map T.Fmt.enc x5.fmts.l), PV.bool x5.fold, PV.bool x5.all, PV.sl x6.nil (szc 1 x6.l) (List.map strE x6.l), T.Snip.encS x7]
def T.Snip.encS : Sl T.Snip → PV
  | ⟨b, l⟩ => .sl b (szc 18 l) (T.Snip.encL l)
def T.Snip.encL : List T.Snip → List (List PV)
  | [] => []
  | x :: r => x.enc :: T.Snip.encL r
end
theorem T.Snip.encL_map : ∀ l : List T.Snip, T.Snip.encL l = l.map T.Snip.enc
  | [] => rfl
  | x :: r => by simp [T.Snip.encL, T.Snip.encL_map r]
theorem T.Snip.encS_eq (s : Sl T.Snip) : T.Snip.encS s = .sl s.nil (szc 18 s.l) (s.l.map T.Snip.enc) := by cases s; simp [T.Snip.encS, T.Snip.encL_map]
theorem T.Snip.enc_eq (x : T.Snip) : x.enc = [PV.int IntKind.i64 x.kind, PV.str x.text, PV.int IntKind.i64 x.n, PV.bool x.has, PV.bool x.turned, PV.int IntKind.i64 x.form.rx.kind, PV.str x.form.rx.char, PV.bool x.form.rx.not, PV.sl x.form.rx.rows.nil (szc 2 x.form.rx.rows.l) (List.map T.Row.enc x.form.rx.rows.l), PV.int IntKind.i64 x.form.rx.min, PV.int IntKind.i64 x.form.rx.max, PV.bool x.form.rx.lazy, PV.sl x.form.rx.kids.nil (szc 8 x.form.rx.kids.l) (List.map T.Rx.enc x.form.rx.kids.l), PV.sl x.form.fmts.nil (szc 5 x.form.fmts.l) (List.map T.Fmt.enc x.form.fmts.l), PV.bool x.form.fold, PV.bool x.form.all, PV.sl x.opts.nil (szc 1 x.opts.l) (List.map strE x.opts.l), PV.sl x.kids.nil (szc 18 x.kids.l) (List.map T.Snip.enc x.kids.l)] := by cases x; simp [T.Snip.enc, T.Snip.encS_eq]
mutual
def T.Snip.ok : T.Snip → Prop
  | ⟨x0, x1, x2, x3, x4, x5, x6, x7⟩ => inI x0 ∧ strOk x1 ∧ inI x2 ∧ trueOf x3 ∧ trueOf x4 ∧ T.Form.ok x5 ∧ (slOk strOk) x6 ∧ T.Snip.okS x7 ∧ True
def T.Snip.okS : Sl T.Snip → Prop
  | ⟨b, l⟩ => (l.length ≤ maxLen ∧ (b = true → l = [])) ∧ T.Snip.okL l
def T.Snip.okL : List T.Snip → Prop
  | [] => True
  | x :: r => x.ok ∧ T.Snip.okL r
end
theorem T.Snip.okL_iff : ∀ l : List T.Snip, T.Snip.okL l ↔ ∀ a ∈ l, a.ok
  | [] => by simp [T.Snip.okL]
  | x :: r => by simp [T.Snip.okL, T.Snip.okL_iff r]
theorem T.Snip.okS_iff (s : Sl T.Snip) : T.Snip.okS s ↔ slOk T.Snip.ok s := by cases s; simp [T.Snip.okS, slOk, T.Snip.okL_iff]
theorem T.Snip.ok_eq (x : T.Snip) : x.ok ↔ (inI x.kind ∧ strOk x.text ∧ inI x.n ∧ trueOf x.has ∧ trueOf x.turned ∧ T.Form.ok x.form ∧ (slOk strOk) x.opts ∧ (slOk T.Snip.ok) x.kids ∧ True) := by cases x; simp only [T.Snip.ok, T.Snip.okS_iff]
def aw9 : Option Bool := some true
end Go.Proofs.Ytmlmgbnhaenabaa
