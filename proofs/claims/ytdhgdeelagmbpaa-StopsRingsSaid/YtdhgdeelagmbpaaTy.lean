/-
  Go's structs as Lean's.
-/
import Derived.Test.YtdhgdeelagmbpaaLd
set_option linter.unusedSimpArgs false
set_option linter.unusedVariables false
set_option maxRecDepth 100000
namespace Go.Proofs.Ytdhgdeelagmbpaa
open Go Go.Gm
structure T.Span where
  frm : Int
  to : Int
  deriving Inhabited, DecidableEq
def T.Span.enc (x : T.Span) : List PV :=
  [PV.int IntKind.i64 x.frm, PV.int IntKind.i64 x.to]
theorem T.Span.enc_eq (x : T.Span) : x.enc = [PV.int IntKind.i64 x.frm, PV.int IntKind.i64 x.to] := rfl
def T.Span.ok (x : T.Span) : Prop := inI x.frm ∧ inI x.to ∧ True
structure T.Row where
  frm : Bytes
  to : Bytes
  deriving Inhabited, DecidableEq
def T.Row.enc (x : T.Row) : List PV :=
  [PV.str x.frm, PV.str x.to]
theorem T.Row.enc_eq (x : T.Row) : x.enc = [PV.str x.frm, PV.str x.to] := rfl
def T.Row.ok (x : T.Row) : Prop := strOk x.frm ∧ strOk x.to ∧ True
structure T.Rx where
  kind : Int
  char : Bytes
  not : Bool
  rows : (Sl T.Row)
  min : Int
  max : Int
  lazy : Bool
  kids : (Sl T.Rx)
  deriving Inhabited
mutual
def T.Rx.enc : T.Rx → List PV
  | ⟨x0, x1, x2, x3, x4, x5, x6, x7⟩ => [PV.int IntKind.i64 x0, PV.str x1, PV.bool x2, PV.sl x3.nil (szc 2 x3.l) (List.map T.Row.enc x3.l), PV.int IntKind.i64 x4, PV.int IntKind.i64 x5, PV.bool x6, T.Rx.encS x7]
def T.Rx.encS : Sl T.Rx → PV
  | ⟨b, l⟩ => .sl b (szc 8 l) (T.Rx.encL l)
def T.Rx.encL : List T.Rx → List (List PV)
  | [] => []
  | x :: r => x.enc :: T.Rx.encL r
end
theorem T.Rx.encL_map : ∀ l : List T.Rx, T.Rx.encL l = l.map T.Rx.enc
  | [] => rfl
  | x :: r => by simp [T.Rx.encL, T.Rx.encL_map r]
theorem T.Rx.encS_eq (s : Sl T.Rx) : T.Rx.encS s = .sl s.nil (szc 8 s.l) (s.l.map T.Rx.enc) := by cases s; simp [T.Rx.encS, T.Rx.encL_map]
theorem T.Rx.enc_eq (x : T.Rx) : x.enc = [PV.int IntKind.i64 x.kind, PV.str x.char, PV.bool x.not, PV.sl x.rows.nil (szc 2 x.rows.l) (List.map T.Row.enc x.rows.l), PV.int IntKind.i64 x.min, PV.int IntKind.i64 x.max, PV.bool x.lazy, PV.sl x.kids.nil (szc 8 x.kids.l) (List.map T.Rx.enc x.kids.l)] := by cases x; simp [T.Rx.enc, T.Rx.encS_eq]
structure T.Fmt where
  kind : Int
  n : Int
  cas : Int
  thn : Bytes
  els : Bytes
  deriving Inhabited, DecidableEq
def T.Fmt.enc (x : T.Fmt) : List PV :=
  [PV.int IntKind.i64 x.kind, PV.int IntKind.i64 x.n, PV.int IntKind.i64 x.cas, PV.str x.thn, PV.str x.els]
theorem T.Fmt.enc_eq (x : T.Fmt) : x.enc = [PV.int IntKind.i64 x.kind, PV.int IntKind.i64 x.n, PV.int IntKind.i64 x.cas, PV.str x.thn, PV.str x.els] := rfl
def T.Fmt.ok (x : T.Fmt) : Prop := inI x.kind ∧ inI x.n ∧ inI x.cas ∧ strOk x.thn ∧ strOk x.els ∧ True
structure T.Form where
  rx : T.Rx
  fmts : (Sl T.Fmt)
  fold : Bool
  all : Bool
  deriving Inhabited
def T.Form.enc (x : T.Form) : List PV :=
  [PV.int IntKind.i64 x.rx.kind, PV.str x.rx.char, PV.bool x.rx.not, PV.sl x.rx.rows.nil (szc 2 x.rx.rows.l) (List.map T.Row.enc x.rx.rows.l), PV.int IntKind.i64 x.rx.min, PV.int IntKind.i64 x.rx.max, PV.bool x.rx.lazy, PV.sl x.rx.kids.nil (szc 8 x.rx.kids.l) (List.map T.Rx.enc x.rx.kids.l), PV.sl x.fmts.nil (szc 5 x.fmts.l) (List.map T.Fmt.enc x.fmts.l), PV.bool x.fold, PV.bool x.all]
theorem T.Form.enc_eq (x : T.Form) : x.enc = [PV.int IntKind.i64 x.rx.kind, PV.str x.rx.char, PV.bool x.rx.not, PV.sl x.rx.rows.nil (szc 2 x.rx.rows.l) (List.map T.Row.enc x.rx.rows.l), PV.int IntKind.i64 x.rx.min, PV.int IntKind.i64 x.rx.max, PV.bool x.rx.lazy, PV.sl x.rx.kids.nil (szc 8 x.rx.kids.l) (List.map T.Rx.enc x.rx.kids.l), PV.sl x.fmts.nil (szc 5 x.fmts.l) (List.map T.Fmt.enc x.fmts.l), PV.bool x.fold, PV.bool x.all] := rfl
def T.Form.ok (x : T.Form) : Prop := trueOf x.rx ∧ (slOk T.Fmt.ok) x.fmts ∧ trueOf x.fold ∧ trueOf x.all ∧ True
structure T.Stop where
  span : T.Span
  n : Int
  up : Int
  first : Bool
  turned : Bool
  form : T.Form
  opts : (Sl Bytes)
  deriving Inhabited
def T.Stop.enc (x : T.Stop) : List PV :=
  [PV.int IntKind.i64 x.span.frm, PV.int IntKind.i64 x.span.to, PV.int IntKind.i64 x.n, PV.int IntKind.i64 x.up, PV.bool x.first, PV.bool x.turned, PV.int IntKind.i64 x.form.rx.kind, PV.str x.form.rx.char, PV.bool x.form.rx.not, PV.sl x.form.rx.rows.nil (szc 2 x.form.rx.rows.l) (List.map T.Row.enc x.form.rx.rows.l), PV.int IntKind.i64 x.form.rx.min, PV.int IntKind.i64 x.form.rx.max, PV.bool x.form.rx.lazy, PV.sl x.form.rx.kids.nil (szc 8 x.form.rx.kids.l) (List.map T.Rx.enc x.form.rx.kids.l), PV.sl x.form.fmts.nil (szc 5 x.form.fmts.l) (List.map T.Fmt.enc x.form.fmts.l), PV.bool x.form.fold, PV.bool x.form.all, PV.sl x.opts.nil (szc 1 x.opts.l) (List.map strE x.opts.l)]
theorem T.Stop.enc_eq (x : T.Stop) : x.enc = [PV.int IntKind.i64 x.span.frm, PV.int IntKind.i64 x.span.to, PV.int IntKind.i64 x.n, PV.int IntKind.i64 x.up, PV.bool x.first, PV.bool x.turned, PV.int IntKind.i64 x.form.rx.kind, PV.str x.form.rx.char, PV.bool x.form.rx.not, PV.sl x.form.rx.rows.nil (szc 2 x.form.rx.rows.l) (List.map T.Row.enc x.form.rx.rows.l), PV.int IntKind.i64 x.form.rx.min, PV.int IntKind.i64 x.form.rx.max, PV.bool x.form.rx.lazy, PV.sl x.form.rx.kids.nil (szc 8 x.form.rx.kids.l) (List.map T.Rx.enc x.form.rx.kids.l), PV.sl x.form.fmts.nil (szc 5 x.form.fmts.l) (List.map T.Fmt.enc x.form.fmts.l), PV.bool x.form.fold, PV.bool x.form.all, PV.sl x.opts.nil (szc 1 x.opts.l) (List.map strE x.opts.l)] := rfl
def T.Stop.ok (x : T.Stop) : Prop := T.Span.ok x.span ∧ inI x.n ∧ inI x.up ∧ trueOf x.first ∧ trueOf x.turned ∧ T.Form.ok x.form ∧ (slOk strOk) x.opts ∧ True
structure T.Inst where
  span : T.Span
  stops : (Sl T.Stop)
  deriving Inhabited
def T.Inst.enc (x : T.Inst) : List PV :=
  [PV.int IntKind.i64 x.span.frm, PV.int IntKind.i64 x.span.to, PV.sl x.stops.nil (szc 18 x.stops.l) (List.map T.Stop.enc x.stops.l)]
theorem T.Inst.enc_eq (x : T.Inst) : x.enc = [PV.int IntKind.i64 x.span.frm, PV.int IntKind.i64 x.span.to, PV.sl x.stops.nil (szc 18 x.stops.l) (List.map T.Stop.enc x.stops.l)] := rfl
def T.Inst.ok (x : T.Inst) : Prop := T.Span.ok x.span ∧ (slOk T.Stop.ok) x.stops ∧ True
def aw7 : Option Bool := some true
end Go.Proofs.Ytdhgdeelagmbpaa
