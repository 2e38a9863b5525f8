/-
  Go's structs as Lean's.
-/
import Derived.Lib.ItoaNum
import Derived.Test.YtllckneefjgafaaGreatDoorVad
set_option linter.unusedSimpArgs false
set_option linter.unusedVariables false
set_option maxRecDepth 100000
namespace Go.Proofs.YtllckneefjgafaaGreatDoor
open Go Go.Gm
structure T.Span where
 frm : Int
 to : Int
 deriving Inhabited,DecidableEq
def T.Span.enc (x : T.Span) : List PV :=
 [PV.int IntKind.i64 x.frm,PV.int IntKind.i64 x.to]
theorem T.Span.qc (x : T.Span) : x.enc = [PV.int IntKind.i64 x.frm,PV.int IntKind.i64 x.to] := rfl
def T.Span.ok (x : T.Span) : Prop := inI x.frm ∧ inI x.to ∧ True
structure T.xm where
 span : T.Span
 text : Bytes
 deriving Inhabited,DecidableEq
def T.xm.enc (x : T.xm) : List PV :=
 [PV.int IntKind.i64 x.span.frm,PV.int IntKind.i64 x.span.to,PV.str x.text]
theorem T.xm.qc (x : T.xm) : x.enc = [PV.int IntKind.i64 x.span.frm,PV.int IntKind.i64 x.span.to,PV.str x.text] := rfl
def T.xm.ok (x : T.xm) : Prop := T.Span.ok x.span ∧ xn x.text ∧ True
structure T.Sel where
 anchor : Int
 head : Int
 deriving Inhabited,DecidableEq
def T.Sel.enc (x : T.Sel) : List PV :=
 [PV.int IntKind.i64 x.anchor,PV.int IntKind.i64 x.head]
theorem T.Sel.qc (x : T.Sel) : x.enc = [PV.int IntKind.i64 x.anchor,PV.int IntKind.i64 x.head] := rfl
def T.Sel.ok (x : T.Sel) : Prop := inI x.anchor ∧ inI x.head ∧ True
structure T.Op where
 kind : Int
 name : Bytes
 text : Bytes
 n : Int
 extend : Bool
 edits : (Sl T.xm)
 sels : (Sl T.Sel)
 deriving Inhabited,DecidableEq
def T.Op.enc (x : T.Op) : List PV :=
 [PV.int IntKind.i64 x.kind,PV.str x.name,PV.str x.text,PV.int IntKind.i64 x.n,PV.bool x.extend,PV.sl x.edits.nil (szc 3 x.edits.l) (List.map T.xm.enc x.edits.l),PV.sl x.sels.nil (szc 2 x.sels.l) (List.map T.Sel.enc x.sels.l)]
theorem T.Op.qc (x : T.Op) : x.enc = [PV.int IntKind.i64 x.kind,PV.str x.name,PV.str x.text,PV.int IntKind.i64 x.n,PV.bool x.extend,PV.sl x.edits.nil (szc 3 x.edits.l) (List.map T.xm.enc x.edits.l),PV.sl x.sels.nil (szc 2 x.sels.l) (List.map T.Sel.enc x.sels.l)] := rfl
def T.Op.ok (x : T.Op) : Prop := inI x.kind ∧ xn x.name ∧ xn x.text ∧ inI x.n ∧ xh x.extend ∧ (zx T.xm.ok) x.edits ∧ (zx T.Sel.ok) x.sels ∧ True
structure T.qd where
 name : Bytes
 value : Bytes
 deriving Inhabited,DecidableEq
def T.qd.enc (x : T.qd) : List PV :=
 [PV.str x.name,PV.str x.value]
theorem T.qd.qc (x : T.qd) : x.enc = [PV.str x.name,PV.str x.value] := rfl
def T.qd.ok (x : T.qd) : Prop := xn x.name ∧ xn x.value ∧ True
structure T.Row where
 frm : Bytes
 to : Bytes
 deriving Inhabited,DecidableEq
def T.Row.enc (x : T.Row) : List PV :=
 [PV.str x.frm,PV.str x.to]
theorem T.Row.qc (x : T.Row) : x.enc = [PV.str x.frm,PV.str x.to] := rfl
def T.Row.ok (x : T.Row) : Prop := xn x.frm ∧ xn x.to ∧ True
structure T.Rx where
 kind : Int
 char : Bytes
 not : Bool
 rows : (Sl T.Row)
 min : Int
 max : Int
 lazy : Bool
 kids : (Sl T.Rx)
 deriving Inhabited
mutual
def T.Rx.enc : T.Rx → List PV
 | ⟨x0,x1,x2,x3,x4,x5,x6,x7⟩ => [PV.int IntKind.i64 x0,PV.str x1,PV.bool x2,PV.sl x3.nil (szc 2 x3.l) (List.map T.Row.enc x3.l),PV.int IntKind.i64 x4,PV.int IntKind.i64 x5,PV.bool x6,T.Rx.encS x7]
def T.Rx.encS : Sl T.Rx → PV
 | ⟨b,l⟩ => .sl b (szc 8 l) (T.Rx.jc l)
def T.Rx.jc : List T.Rx → List (List PV)
 | [] => []
 | x :: r => x.enc :: T.Rx.jc r
end
theorem T.Rx.uq : ∀ l : List T.Rx,T.Rx.jc l = l.map T.Rx.enc
 | [] => rfl
 | x :: r => by simp [T.Rx.jc,T.Rx.uq r]
theorem T.Rx.q2e (s : Sl T.Rx) : T.Rx.encS s = .sl s.nil (szc 8 s.l) (s.l.map T.Rx.enc) := by cases s; simp [T.Rx.encS,T.Rx.uq]
theorem T.Rx.qc (x : T.Rx) : x.enc = [PV.int IntKind.i64 x.kind,PV.str x.char,PV.bool x.not,PV.sl x.rows.nil (szc 2 x.rows.l) (List.map T.Row.enc x.rows.l),PV.int IntKind.i64 x.min,PV.int IntKind.i64 x.max,PV.bool x.lazy,PV.sl x.kids.nil (szc 8 x.kids.l) (List.map T.Rx.enc x.kids.l)] := by cases x; simp [T.Rx.enc,T.Rx.q2e]
mutual
def T.Rx.ok : T.Rx → Prop
 | ⟨x0,x1,x2,x3,x4,x5,x6,x7⟩ => inI x0 ∧ xn x1 ∧ xh x2 ∧ (zx T.Row.ok) x3 ∧ inI x4 ∧ inI x5 ∧ xh x6 ∧ T.Rx.okS x7 ∧ True
def T.Rx.okS : Sl T.Rx → Prop
 | ⟨b,l⟩ => (l.length ≤ maxLen ∧ (b = true → l = [])) ∧ T.Rx.okL l
def T.Rx.okL : List T.Rx → Prop
 | [] => True
 | x :: r => x.ok ∧ T.Rx.okL r
end
structure T.Fmt where
 kind : Int
 n : Int
 cas : Int
 thn : Bytes
 els : Bytes
 deriving Inhabited,DecidableEq
def T.Fmt.enc (x : T.Fmt) : List PV :=
 [PV.int IntKind.i64 x.kind,PV.int IntKind.i64 x.n,PV.int IntKind.i64 x.cas,PV.str x.thn,PV.str x.els]
theorem T.Fmt.qc (x : T.Fmt) : x.enc = [PV.int IntKind.i64 x.kind,PV.int IntKind.i64 x.n,PV.int IntKind.i64 x.cas,PV.str x.thn,PV.str x.els] := rfl
def T.Fmt.ok (x : T.Fmt) : Prop := inI x.kind ∧ inI x.n ∧ inI x.cas ∧ xn x.thn ∧ xn x.els ∧ True
structure T.Form where
 rx : T.Rx
 fmts : (Sl T.Fmt)
 fold : Bool
 all : Bool
 deriving Inhabited
def T.Form.enc (x : T.Form) : List PV :=
 [PV.int IntKind.i64 x.rx.kind,PV.str x.rx.char,PV.bool x.rx.not,PV.sl x.rx.rows.nil (szc 2 x.rx.rows.l) (List.map T.Row.enc x.rx.rows.l),PV.int IntKind.i64 x.rx.min,PV.int IntKind.i64 x.rx.max,PV.bool x.rx.lazy,PV.sl x.rx.kids.nil (szc 8 x.rx.kids.l) (List.map T.Rx.enc x.rx.kids.l),PV.sl x.fmts.nil (szc 5 x.fmts.l) (List.map T.Fmt.enc x.fmts.l),PV.bool x.fold,PV.bool x.all]
theorem T.Form.qc (x : T.Form) : x.enc = [PV.int IntKind.i64 x.rx.kind,PV.str x.rx.char,PV.bool x.rx.not,PV.sl x.rx.rows.nil (szc 2 x.rx.rows.l) (List.map T.Row.enc x.rx.rows.l),PV.int IntKind.i64 x.rx.min,PV.int IntKind.i64 x.rx.max,PV.bool x.rx.lazy,PV.sl x.rx.kids.nil (szc 8 x.rx.kids.l) (List.map T.Rx.enc x.rx.kids.l),PV.sl x.fmts.nil (szc 5 x.fmts.l) (List.map T.Fmt.enc x.fmts.l),PV.bool x.fold,PV.bool x.all] := rfl
def T.Form.ok (x : T.Form) : Prop := T.Rx.ok x.rx ∧ (zx T.Fmt.ok) x.fmts ∧ xh x.fold ∧ xh x.all ∧ True
structure T.Stop where
 span : T.Span
 n : Int
 up : Int
 first : Bool
 turned : Bool
 form : T.Form
 opts : (Sl Bytes)
 deriving Inhabited
def T.Stop.enc (x : T.Stop) : List PV :=
 [PV.int IntKind.i64 x.span.frm,PV.int IntKind.i64 x.span.to,PV.int IntKind.i64 x.n,PV.int IntKind.i64 x.up,PV.bool x.first,PV.bool x.turned,PV.int IntKind.i64 x.form.rx.kind,PV.str x.form.rx.char,PV.bool x.form.rx.not,PV.sl x.form.rx.rows.nil (szc 2 x.form.rx.rows.l) (List.map T.Row.enc x.form.rx.rows.l),PV.int IntKind.i64 x.form.rx.min,PV.int IntKind.i64 x.form.rx.max,PV.bool x.form.rx.lazy,PV.sl x.form.rx.kids.nil (szc 8 x.form.rx.kids.l) (List.map T.Rx.enc x.form.rx.kids.l),PV.sl x.form.fmts.nil (szc 5 x.form.fmts.l) (List.map T.Fmt.enc x.form.fmts.l),PV.bool x.form.fold,PV.bool x.form.all,PV.sl x.opts.nil (szc 1 x.opts.l) (List.map xx x.opts.l)]
theorem T.Stop.qc (x : T.Stop) : x.enc = [PV.int IntKind.i64 x.span.frm,PV.int IntKind.i64 x.span.to,PV.int IntKind.i64 x.n,PV.int IntKind.i64 x.up,PV.bool x.first,PV.bool x.turned,PV.int IntKind.i64 x.form.rx.kind,PV.str x.form.rx.char,PV.bool x.form.rx.not,PV.sl x.form.rx.rows.nil (szc 2 x.form.rx.rows.l) (List.map T.Row.enc x.form.rx.rows.l),PV.int IntKind.i64 x.form.rx.min,PV.int IntKind.i64 x.form.rx.max,PV.bool x.form.rx.lazy,PV.sl x.form.rx.kids.nil (szc 8 x.form.rx.kids.l) (List.map T.Rx.enc x.form.rx.kids.l),PV.sl x.form.fmts.nil (szc 5 x.form.fmts.l) (List.map T.Fmt.enc x.form.fmts.l),PV.bool x.form.fold,PV.bool x.form.all,PV.sl x.opts.nil (szc 1 x.opts.l) (List.map xx x.opts.l)] := rfl
def T.Stop.ok (x : T.Stop) : Prop := T.Span.ok x.span ∧ inI x.n ∧ inI x.up ∧ xh x.first ∧ xh x.turned ∧ T.Form.ok x.form ∧ (zx xn) x.opts ∧ True
structure T.ky where
 span : T.Span
 stops : (Sl T.Stop)
 deriving Inhabited
def T.ky.enc (x : T.ky) : List PV :=
 [PV.int IntKind.i64 x.span.frm,PV.int IntKind.i64 x.span.to,PV.sl x.stops.nil (szc 18 x.stops.l) (List.map T.Stop.enc x.stops.l)]
theorem T.ky.qc (x : T.ky) : x.enc = [PV.int IntKind.i64 x.span.frm,PV.int IntKind.i64 x.span.to,PV.sl x.stops.nil (szc 18 x.stops.l) (List.map T.Stop.enc x.stops.l)] := rfl
def T.ky.ok (x : T.ky) : Prop := T.Span.ok x.span ∧ (zx T.Stop.ok) x.stops ∧ True
structure T.wm where
 cur : Int
 insts : (Sl T.ky)
 deriving Inhabited
def T.wm.enc (x : T.wm) : List PV :=
 [PV.int IntKind.i64 x.cur,PV.sl x.insts.nil (szc 3 x.insts.l) (List.map T.ky.enc x.insts.l)]
theorem T.wm.qc (x : T.wm) : x.enc = [PV.int IntKind.i64 x.cur,PV.sl x.insts.nil (szc 3 x.insts.l) (List.map T.ky.enc x.insts.l)] := rfl
def T.wm.ok (x : T.wm) : Prop := inI x.cur ∧ (zx T.ky.ok) x.insts ∧ True
structure T.State where
 text : Bytes
 sels : (Sl T.Sel)
 sessions : (Sl T.wm)
 deriving Inhabited
def T.State.enc (x : T.State) : List PV :=
 [PV.str x.text,PV.sl x.sels.nil (szc 2 x.sels.l) (List.map T.Sel.enc x.sels.l),PV.sl x.sessions.nil (szc 2 x.sessions.l) (List.map T.wm.enc x.sessions.l)]
theorem T.State.qc (x : T.State) : x.enc = [PV.str x.text,PV.sl x.sels.nil (szc 2 x.sels.l) (List.map T.Sel.enc x.sels.l),PV.sl x.sessions.nil (szc 2 x.sessions.l) (List.map T.wm.enc x.sessions.l)] := rfl
def T.State.ok (x : T.State) : Prop := xn x.text ∧ (zx T.Sel.ok) x.sels ∧ (zx T.wm.ok) x.sessions ∧ True
structure T.q0y where
 nums : (Sl Int)
 told : Int
 last : Int
 deriving Inhabited,DecidableEq
def T.q0y.enc (x : T.q0y) : List PV :=
 [PV.sl x.nums.nil (szc 1 x.nums.l) (List.map (kE IntKind.u32) x.nums.l),PV.int IntKind.i64 x.told,PV.int IntKind.u32 x.last]
theorem T.q0y.qc (x : T.q0y) : x.enc = [PV.sl x.nums.nil (szc 1 x.nums.l) (List.map (kE IntKind.u32) x.nums.l),PV.int IntKind.i64 x.told,PV.int IntKind.u32 x.last] := rfl
def T.q0y.ok (x : T.q0y) : Prop := (zx inU) x.nums ∧ inI x.told ∧ inU x.last ∧ True
structure T.q0w where
 most : Int
 behind : (Sl T.State)
 ahead : (Sl T.State)
 deriving Inhabited
def T.q0w.enc (x : T.q0w) : List PV :=
 [PV.int IntKind.i64 x.most,PV.sl x.behind.nil (szc 3 x.behind.l) (List.map T.State.enc x.behind.l),PV.sl x.ahead.nil (szc 3 x.ahead.l) (List.map T.State.enc x.ahead.l)]
theorem T.q0w.qc (x : T.q0w) : x.enc = [PV.int IntKind.i64 x.most,PV.sl x.behind.nil (szc 3 x.behind.l) (List.map T.State.enc x.behind.l),PV.sl x.ahead.nil (szc 3 x.ahead.l) (List.map T.State.enc x.ahead.l)] := rfl
def T.q0w.ok (x : T.q0w) : Prop := inI x.most ∧ (zx T.State.ok) x.behind ∧ (zx T.State.ok) x.ahead ∧ True
structure T.q15 where
 s : Bytes
 at_ : Int
 deriving Inhabited,DecidableEq
def T.q15.enc (x : T.q15) : List PV :=
 [PV.str x.s,PV.int IntKind.i64 x.at_]
theorem T.q15.qc (x : T.q15) : x.enc = [PV.str x.s,PV.int IntKind.i64 x.at_] := rfl
def T.q15.ok (x : T.q15) : Prop := xn x.s ∧ inI x.at_ ∧ True
structure T.q12 where
 bytes : Int
 breaks : Int
 runes : Int
 units : Int
 deriving Inhabited,DecidableEq
def T.q12.enc (x : T.q12) : List PV :=
 [PV.int IntKind.i64 x.bytes,PV.int IntKind.i64 x.breaks,PV.int IntKind.i64 x.runes,PV.int IntKind.i64 x.units]
theorem T.q12.qc (x : T.q12) : x.enc = [PV.int IntKind.i64 x.bytes,PV.int IntKind.i64 x.breaks,PV.int IntKind.i64 x.runes,PV.int IntKind.i64 x.units] := rfl
def T.q12.ok (x : T.q12) : Prop := inI x.bytes ∧ inI x.breaks ∧ inI x.runes ∧ inI x.units ∧ True
structure T.yj where
 id : Int
 held : Bool
 deriving Inhabited,DecidableEq
def T.yj.enc (x : T.yj) : List PV :=
 [PV.int IntKind.i64 x.id,PV.bool x.held]
theorem T.yj.qc (x : T.yj) : x.enc = [PV.int IntKind.i64 x.id,PV.bool x.held] := rfl
def T.yj.ok (x : T.yj) : Prop := inI x.id ∧ xh x.held ∧ True
structure T.yh where
 session : T.wm
 marks : (Sl (Sl T.yj))
 deriving Inhabited
def T.yh.enc (x : T.yh) : List PV :=
 [PV.int IntKind.i64 x.session.cur,PV.sl x.session.insts.nil (szc 3 x.session.insts.l) (List.map T.ky.enc x.session.insts.l),PV.sl x.marks.nil (szc 1 x.marks.l) (List.map (slE 2 T.yj.enc) x.marks.l)]
theorem T.yh.qc (x : T.yh) : x.enc = [PV.int IntKind.i64 x.session.cur,PV.sl x.session.insts.nil (szc 3 x.session.insts.l) (List.map T.ky.enc x.session.insts.l),PV.sl x.marks.nil (szc 1 x.marks.l) (List.map (slE 2 T.yj.enc) x.marks.l)] := rfl
def T.yh.ok (x : T.yh) : Prop := T.wm.ok x.session ∧ (zx (zx T.yj.ok)) x.marks ∧ True
structure T.q1f where
 text : Bytes
 sels : (Sl T.Sel)
 sessions : (Sl T.yh)
 deriving Inhabited
def T.q1f.enc (x : T.q1f) : List PV :=
 [PV.str x.text,PV.sl x.sels.nil (szc 2 x.sels.l) (List.map T.Sel.enc x.sels.l),PV.sl x.sessions.nil (szc 3 x.sessions.l) (List.map T.yh.enc x.sessions.l)]
theorem T.q1f.qc (x : T.q1f) : x.enc = [PV.str x.text,PV.sl x.sels.nil (szc 2 x.sels.l) (List.map T.Sel.enc x.sels.l),PV.sl x.sessions.nil (szc 3 x.sessions.l) (List.map T.yh.enc x.sessions.l)] := rfl
def T.q1f.ok (x : T.q1f) : Prop := xn x.text ∧ (zx T.Sel.ok) x.sels ∧ (zx T.yh.ok) x.sessions ∧ True
structure T.qx where
 kind : Int
 text : Bytes
 n : Int
 has : Bool
 turned : Bool
 form : T.Form
 opts : (Sl Bytes)
 kids : (Sl T.qx)
 deriving Inhabited
mutual
def T.qx.enc : T.qx → List PV
 | ⟨x0,x1,x2,x3,x4,x5,x6,x7⟩ => [PV.int IntKind.i64 x0,PV.str x1,PV.int IntKind.i64 x2,PV.bool x3,PV.bool x4,PV.int IntKind.i64 x5.rx.kind,PV.str x5.rx.char,PV.bool x5.rx.not,PV.sl x5.rx.rows.nil (szc 2 x5.rx.rows.l) (List.map T.Row.enc x5.rx.rows.l),PV.int IntKind.i64 x5.rx.min,PV.int IntKind.i64 x5.rx.max,PV.bool x5.rx.lazy,PV.sl x5.rx.kids.nil (szc 8 x5.rx.kids.l) (List.map T.Rx.enc x5.rx.kids.l),PV.sl x5.fmts.nil (szc 5 x5.fmts.l) (List.map T.Fmt.enc x5.fmts.l),PV.bool x5.fold,PV.bool x5.all,PV.sl x6.nil (szc 1 x6.l) (List.map xx x6.l),T.qx.encS x7]
def T.qx.encS : Sl T.qx → PV
 | ⟨b,l⟩ => .sl b (szc 18 l) (T.qx.jc l)
def T.qx.jc : List T.qx → List (List PV)
 | [] => []
 | x :: r => x.enc :: T.qx.jc r
end
theorem T.qx.uq : ∀ l : List T.qx,T.qx.jc l = l.map T.qx.enc
 | [] => rfl
 | x :: r => by simp [T.qx.jc,T.qx.uq r]
theorem T.qx.q2e (s : Sl T.qx) : T.qx.encS s = .sl s.nil (szc 18 s.l) (s.l.map T.qx.enc) := by cases s; simp [T.qx.encS,T.qx.uq]
theorem T.qx.qc (x : T.qx) : x.enc = [PV.int IntKind.i64 x.kind,PV.str x.text,PV.int IntKind.i64 x.n,PV.bool x.has,PV.bool x.turned,PV.int IntKind.i64 x.form.rx.kind,PV.str x.form.rx.char,PV.bool x.form.rx.not,PV.sl x.form.rx.rows.nil (szc 2 x.form.rx.rows.l) (List.map T.Row.enc x.form.rx.rows.l),PV.int IntKind.i64 x.form.rx.min,PV.int IntKind.i64 x.form.rx.max,PV.bool x.form.rx.lazy,PV.sl x.form.rx.kids.nil (szc 8 x.form.rx.kids.l) (List.map T.Rx.enc x.form.rx.kids.l),PV.sl x.form.fmts.nil (szc 5 x.form.fmts.l) (List.map T.Fmt.enc x.form.fmts.l),PV.bool x.form.fold,PV.bool x.form.all,PV.sl x.opts.nil (szc 1 x.opts.l) (List.map xx x.opts.l),PV.sl x.kids.nil (szc 18 x.kids.l) (List.map T.qx.enc x.kids.l)] := by cases x; simp [T.qx.enc,T.qx.q2e]
mutual
def T.qx.ok : T.qx → Prop
 | ⟨x0,x1,x2,x3,x4,x5,x6,x7⟩ => inI x0 ∧ xn x1 ∧ inI x2 ∧ xh x3 ∧ xh x4 ∧ T.Form.ok x5 ∧ (zx xn) x6 ∧ T.qx.okS x7 ∧ True
def T.qx.okS : Sl T.qx → Prop
 | ⟨b,l⟩ => (l.length ≤ maxLen ∧ (b = true → l = [])) ∧ T.qx.okL l
def T.qx.okL : List T.qx → Prop
 | [] => True
 | x :: r => x.ok ∧ T.qx.okL r
end
structure T.Range where
 span : T.Span
 fromRight : Bool
 toRight : Bool
 parent : Int
 deriving Inhabited,DecidableEq
def T.Range.enc (x : T.Range) : List PV :=
 [PV.int IntKind.i64 x.span.frm,PV.int IntKind.i64 x.span.to,PV.bool x.fromRight,PV.bool x.toRight,PV.int IntKind.i64 x.parent]
theorem T.Range.qc (x : T.Range) : x.enc = [PV.int IntKind.i64 x.span.frm,PV.int IntKind.i64 x.span.to,PV.bool x.fromRight,PV.bool x.toRight,PV.int IntKind.i64 x.parent] := rfl
def T.Range.ok (x : T.Range) : Prop := T.Span.ok x.span ∧ xh x.fromRight ∧ xh x.toRight ∧ inI x.parent ∧ True
structure T.q1a where
 part : T.qx
 end_ : Int
 ok_ : Bool
 deriving Inhabited
def T.q1a.enc (x : T.q1a) : List PV :=
 [PV.int IntKind.i64 x.part.kind,PV.str x.part.text,PV.int IntKind.i64 x.part.n,PV.bool x.part.has,PV.bool x.part.turned,PV.int IntKind.i64 x.part.form.rx.kind,PV.str x.part.form.rx.char,PV.bool x.part.form.rx.not,PV.sl x.part.form.rx.rows.nil (szc 2 x.part.form.rx.rows.l) (List.map T.Row.enc x.part.form.rx.rows.l),PV.int IntKind.i64 x.part.form.rx.min,PV.int IntKind.i64 x.part.form.rx.max,PV.bool x.part.form.rx.lazy,PV.sl x.part.form.rx.kids.nil (szc 8 x.part.form.rx.kids.l) (List.map T.Rx.enc x.part.form.rx.kids.l),PV.sl x.part.form.fmts.nil (szc 5 x.part.form.fmts.l) (List.map T.Fmt.enc x.part.form.fmts.l),PV.bool x.part.form.fold,PV.bool x.part.form.all,PV.sl x.part.opts.nil (szc 1 x.part.opts.l) (List.map xx x.part.opts.l),PV.sl x.part.kids.nil (szc 18 x.part.kids.l) (List.map T.qx.enc x.part.kids.l),PV.int IntKind.i64 x.end_,PV.bool x.ok_]
theorem T.q1a.qc (x : T.q1a) : x.enc = [PV.int IntKind.i64 x.part.kind,PV.str x.part.text,PV.int IntKind.i64 x.part.n,PV.bool x.part.has,PV.bool x.part.turned,PV.int IntKind.i64 x.part.form.rx.kind,PV.str x.part.form.rx.char,PV.bool x.part.form.rx.not,PV.sl x.part.form.rx.rows.nil (szc 2 x.part.form.rx.rows.l) (List.map T.Row.enc x.part.form.rx.rows.l),PV.int IntKind.i64 x.part.form.rx.min,PV.int IntKind.i64 x.part.form.rx.max,PV.bool x.part.form.rx.lazy,PV.sl x.part.form.rx.kids.nil (szc 8 x.part.form.rx.kids.l) (List.map T.Rx.enc x.part.form.rx.kids.l),PV.sl x.part.form.fmts.nil (szc 5 x.part.form.fmts.l) (List.map T.Fmt.enc x.part.form.fmts.l),PV.bool x.part.form.fold,PV.bool x.part.form.all,PV.sl x.part.opts.nil (szc 1 x.part.opts.l) (List.map xx x.part.opts.l),PV.sl x.part.kids.nil (szc 18 x.part.kids.l) (List.map T.qx.enc x.part.kids.l),PV.int IntKind.i64 x.end_,PV.bool x.ok_] := rfl
def T.q1a.ok (x : T.q1a) : Prop := T.qx.ok x.part ∧ inI x.end_ ∧ xh x.ok_ ∧ True
structure T.q0p where
 e : T.xm
 does : (Sl (Sl Int))
 inst : Int
 place : Int
 deriving Inhabited,DecidableEq
def T.q0p.enc (x : T.q0p) : List PV :=
 [PV.int IntKind.i64 x.e.span.frm,PV.int IntKind.i64 x.e.span.to,PV.str x.e.text,PV.sl x.does.nil (szc 1 x.does.l) (List.map (slE 1 yo) x.does.l),PV.int IntKind.i64 x.inst,PV.int IntKind.i64 x.place]
theorem T.q0p.qc (x : T.q0p) : x.enc = [PV.int IntKind.i64 x.e.span.frm,PV.int IntKind.i64 x.e.span.to,PV.str x.e.text,PV.sl x.does.nil (szc 1 x.does.l) (List.map (slE 1 yo) x.does.l),PV.int IntKind.i64 x.inst,PV.int IntKind.i64 x.place] := rfl
def T.q0p.ok (x : T.q0p) : Prop := T.xm.ok x.e ∧ (zx (zx inI)) x.does ∧ inI x.inst ∧ inI x.place ∧ True
structure T.q1k where
 span : T.Span
 parts : (Sl T.Span)
 deriving Inhabited,DecidableEq
def T.q1k.enc (x : T.q1k) : List PV :=
 [PV.int IntKind.i64 x.span.frm,PV.int IntKind.i64 x.span.to,PV.sl x.parts.nil (szc 2 x.parts.l) (List.map T.Span.enc x.parts.l)]
theorem T.q1k.qc (x : T.q1k) : x.enc = [PV.int IntKind.i64 x.span.frm,PV.int IntKind.i64 x.span.to,PV.sl x.parts.nil (szc 2 x.parts.l) (List.map T.Span.enc x.parts.l)] := rfl
def T.q1k.ok (x : T.q1k) : Prop := T.Span.ok x.span ∧ (zx T.Span.ok) x.parts ∧ True
structure T.zb where
 text : Bytes
 adapt : Bool
 stop : Bool
 turned : Bool
 form : T.Form
 n : Int
 first : Bool
 opts : (Sl Bytes)
 kids : (Sl T.zb)
 size : Int
 deriving Inhabited
mutual
def T.zb.enc : T.zb → List PV
 | ⟨x0,x1,x2,x3,x4,x5,x6,x7,x8,x9⟩ => [PV.str x0,PV.bool x1,PV.bool x2,PV.bool x3,PV.int IntKind.i64 x4.rx.kind,PV.str x4.rx.char,PV.bool x4.rx.not,PV.sl x4.rx.rows.nil (szc 2 x4.rx.rows.l) (List.map T.Row.enc x4.rx.rows.l),PV.int IntKind.i64 x4.rx.min,PV.int IntKind.i64 x4.rx.max,PV.bool x4.rx.lazy,PV.sl x4.rx.kids.nil (szc 8 x4.rx.kids.l) (List.map T.Rx.enc x4.rx.kids.l),PV.sl x4.fmts.nil (szc 5 x4.fmts.l) (List.map T.Fmt.enc x4.fmts.l),PV.bool x4.fold,PV.bool x4.all,PV.int IntKind.i64 x5,PV.bool x6,PV.sl x7.nil (szc 1 x7.l) (List.map xx x7.l),T.zb.encS x8,PV.int IntKind.i64 x9]
def T.zb.encS : Sl T.zb → PV
 | ⟨b,l⟩ => .sl b (szc 20 l) (T.zb.jc l)
def T.zb.jc : List T.zb → List (List PV)
 | [] => []
 | x :: r => x.enc :: T.zb.jc r
end
theorem T.zb.uq : ∀ l : List T.zb,T.zb.jc l = l.map T.zb.enc
 | [] => rfl
 | x :: r => by simp [T.zb.jc,T.zb.uq r]
theorem T.zb.q2e (s : Sl T.zb) : T.zb.encS s = .sl s.nil (szc 20 s.l) (s.l.map T.zb.enc) := by cases s; simp [T.zb.encS,T.zb.uq]
theorem T.zb.qc (x : T.zb) : x.enc = [PV.str x.text,PV.bool x.adapt,PV.bool x.stop,PV.bool x.turned,PV.int IntKind.i64 x.form.rx.kind,PV.str x.form.rx.char,PV.bool x.form.rx.not,PV.sl x.form.rx.rows.nil (szc 2 x.form.rx.rows.l) (List.map T.Row.enc x.form.rx.rows.l),PV.int IntKind.i64 x.form.rx.min,PV.int IntKind.i64 x.form.rx.max,PV.bool x.form.rx.lazy,PV.sl x.form.rx.kids.nil (szc 8 x.form.rx.kids.l) (List.map T.Rx.enc x.form.rx.kids.l),PV.sl x.form.fmts.nil (szc 5 x.form.fmts.l) (List.map T.Fmt.enc x.form.fmts.l),PV.bool x.form.fold,PV.bool x.form.all,PV.int IntKind.i64 x.n,PV.bool x.first,PV.sl x.opts.nil (szc 1 x.opts.l) (List.map xx x.opts.l),PV.sl x.kids.nil (szc 20 x.kids.l) (List.map T.zb.enc x.kids.l),PV.int IntKind.i64 x.size] := by cases x; simp [T.zb.enc,T.zb.q2e]
mutual
def T.zb.ok : T.zb → Prop
 | ⟨x0,x1,x2,x3,x4,x5,x6,x7,x8,x9⟩ => xn x0 ∧ xh x1 ∧ xh x2 ∧ xh x3 ∧ T.Form.ok x4 ∧ inI x5 ∧ xh x6 ∧ (zx xn) x7 ∧ T.zb.okS x8 ∧ inI x9 ∧ True
def T.zb.okS : Sl T.zb → Prop
 | ⟨b,l⟩ => (l.length ≤ maxLen ∧ (b = true → l = [])) ∧ T.zb.okL l
def T.zb.okL : List T.zb → Prop
 | [] => True
 | x :: r => x.ok ∧ T.zb.okL r
end
structure T.qy where
 rx : T.Rx
 kids : (Sl T.qy)
 lo : Int
 hi : Int
 deriving Inhabited
mutual
def T.qy.enc : T.qy → List PV
 | ⟨x0,x1,x2,x3⟩ => [PV.int IntKind.i64 x0.kind,PV.str x0.char,PV.bool x0.not,PV.sl x0.rows.nil (szc 2 x0.rows.l) (List.map T.Row.enc x0.rows.l),PV.int IntKind.i64 x0.min,PV.int IntKind.i64 x0.max,PV.bool x0.lazy,PV.sl x0.kids.nil (szc 8 x0.kids.l) (List.map T.Rx.enc x0.kids.l),T.qy.encS x1,PV.int IntKind.i64 x2,PV.int IntKind.i64 x3]
def T.qy.encS : Sl T.qy → PV
 | ⟨b,l⟩ => .sl b (szc 11 l) (T.qy.jc l)
def T.qy.jc : List T.qy → List (List PV)
 | [] => []
 | x :: r => x.enc :: T.qy.jc r
end
theorem T.qy.uq : ∀ l : List T.qy,T.qy.jc l = l.map T.qy.enc
 | [] => rfl
 | x :: r => by simp [T.qy.jc,T.qy.uq r]
theorem T.qy.q2e (s : Sl T.qy) : T.qy.encS s = .sl s.nil (szc 11 s.l) (s.l.map T.qy.enc) := by cases s; simp [T.qy.encS,T.qy.uq]
theorem T.qy.qc (x : T.qy) : x.enc = [PV.int IntKind.i64 x.rx.kind,PV.str x.rx.char,PV.bool x.rx.not,PV.sl x.rx.rows.nil (szc 2 x.rx.rows.l) (List.map T.Row.enc x.rx.rows.l),PV.int IntKind.i64 x.rx.min,PV.int IntKind.i64 x.rx.max,PV.bool x.rx.lazy,PV.sl x.rx.kids.nil (szc 8 x.rx.kids.l) (List.map T.Rx.enc x.rx.kids.l),PV.sl x.kids.nil (szc 11 x.kids.l) (List.map T.qy.enc x.kids.l),PV.int IntKind.i64 x.lo,PV.int IntKind.i64 x.hi] := by cases x; simp [T.qy.enc,T.qy.q2e]
mutual
def T.qy.ok : T.qy → Prop
 | ⟨x0,x1,x2,x3⟩ => T.Rx.ok x0 ∧ T.qy.okS x1 ∧ inI x2 ∧ inI x3 ∧ True
def T.qy.okS : Sl T.qy → Prop
 | ⟨b,l⟩ => (l.length ≤ maxLen ∧ (b = true → l = [])) ∧ T.qy.okL l
def T.qy.okL : List T.qy → Prop
 | [] => True
 | x :: r => x.ok ∧ T.qy.okL r
end
structure T.q19 where
 top : T.qy
 fold : Bool
 chars : (Sl Bytes)
 places : (Sl Int)
 parts : (Sl T.Span)
 fuel : Int
 out : Bool
 deriving Inhabited
def T.q19.enc (x : T.q19) : List PV :=
 [PV.int IntKind.i64 x.top.rx.kind,PV.str x.top.rx.char,PV.bool x.top.rx.not,PV.sl x.top.rx.rows.nil (szc 2 x.top.rx.rows.l) (List.map T.Row.enc x.top.rx.rows.l),PV.int IntKind.i64 x.top.rx.min,PV.int IntKind.i64 x.top.rx.max,PV.bool x.top.rx.lazy,PV.sl x.top.rx.kids.nil (szc 8 x.top.rx.kids.l) (List.map T.Rx.enc x.top.rx.kids.l),PV.sl x.top.kids.nil (szc 11 x.top.kids.l) (List.map T.qy.enc x.top.kids.l),PV.int IntKind.i64 x.top.lo,PV.int IntKind.i64 x.top.hi,PV.bool x.fold,PV.sl x.chars.nil (szc 1 x.chars.l) (List.map xx x.chars.l),PV.sl x.places.nil (szc 1 x.places.l) (List.map yo x.places.l),PV.sl x.parts.nil (szc 2 x.parts.l) (List.map T.Span.enc x.parts.l),PV.int IntKind.i64 x.fuel,PV.bool x.out]
theorem T.q19.qc (x : T.q19) : x.enc = [PV.int IntKind.i64 x.top.rx.kind,PV.str x.top.rx.char,PV.bool x.top.rx.not,PV.sl x.top.rx.rows.nil (szc 2 x.top.rx.rows.l) (List.map T.Row.enc x.top.rx.rows.l),PV.int IntKind.i64 x.top.rx.min,PV.int IntKind.i64 x.top.rx.max,PV.bool x.top.rx.lazy,PV.sl x.top.rx.kids.nil (szc 8 x.top.rx.kids.l) (List.map T.Rx.enc x.top.rx.kids.l),PV.sl x.top.kids.nil (szc 11 x.top.kids.l) (List.map T.qy.enc x.top.kids.l),PV.int IntKind.i64 x.top.lo,PV.int IntKind.i64 x.top.hi,PV.bool x.fold,PV.sl x.chars.nil (szc 1 x.chars.l) (List.map xx x.chars.l),PV.sl x.places.nil (szc 1 x.places.l) (List.map yo x.places.l),PV.sl x.parts.nil (szc 2 x.parts.l) (List.map T.Span.enc x.parts.l),PV.int IntKind.i64 x.fuel,PV.bool x.out] := rfl
def T.q19.ok (x : T.q19) : Prop := T.qy.ok x.top ∧ xh x.fold ∧ (zx xn) x.chars ∧ (zx inI) x.places ∧ (zx T.Span.ok) x.parts ∧ inI x.fuel ∧ xh x.out ∧ True
structure T.q0t where
 text : Bytes
 deriving Inhabited,DecidableEq
def T.q0t.enc (x : T.q0t) : List PV :=
 [PV.str x.text]
theorem T.q0t.qc (x : T.q0t) : x.enc = [PV.str x.text] := rfl
def T.q0t.ok (x : T.q0t) : Prop := xn x.text ∧ True
structure T.mr where
 all : (Sl Bytes)
 at_ : Int
 deriving Inhabited,DecidableEq
def T.mr.enc (x : T.mr) : List PV :=
 [PV.sl x.all.nil (szc 1 x.all.l) (List.map xx x.all.l),PV.int IntKind.i64 x.at_]
theorem T.mr.qc (x : T.mr) : x.enc = [PV.sl x.all.nil (szc 1 x.all.l) (List.map xx x.all.l),PV.int IntKind.i64 x.at_] := rfl
def T.mr.ok (x : T.mr) : Prop := (zx xn) x.all ∧ inI x.at_ ∧ True
structure T.q1h where
 place : T.mr
 deep : Int
 deriving Inhabited,DecidableEq
def T.q1h.enc (x : T.q1h) : List PV :=
 [PV.sl x.place.all.nil (szc 1 x.place.all.l) (List.map xx x.place.all.l),PV.int IntKind.i64 x.place.at_,PV.int IntKind.i64 x.deep]
theorem T.q1h.qc (x : T.q1h) : x.enc = [PV.sl x.place.all.nil (szc 1 x.place.all.l) (List.map xx x.place.all.l),PV.int IntKind.i64 x.place.at_,PV.int IntKind.i64 x.deep] := rfl
def T.q1h.ok (x : T.q1h) : Prop := T.mr.ok x.place ∧ inI x.deep ∧ True
def aw4 : Option Bool := some true
theorem qku {α : Type} {u0 u1 : Bool} {p q : Option α} {r : α} {P : Prop} (f : u0 = true → u1 = true → p = some r → P) (g : ((u0 = false ∧ Dum) ∨ (u0 = true ∧ u1 = false)) → q = some r → P) (h : (if (u0 && u1) = true then p else q) = some r) : P := by cases u0 <;> cases u1 <;> simp_all [Dum]
theorem z2m {α : Type} {u0 u1 : Bool} {p q : Option α} {r : α} {P : Prop} (f : ((u0 = true ∧ Dum) ∨ (u0 = false ∧ u1 = true)) → p = some r → P) (g : u0 = false → u1 = false → q = some r → P) (h : (if (u0 || u1) = true then p else q) = some r) : P := by cases u0 <;> cases u1 <;> simp_all [Dum]
theorem zhb {α : Type} {u0 u1 u2 u3 u4 u5 : Bool} {p q : Option α} {r : α} {P : Prop} (f : ((u0 = true ∧ u1 = true ∧ Dum ∧ Dum ∧ Dum ∧ Dum) ∨ (u0 = false ∧ Dum ∧ u2 = true ∧ u3 = true ∧ Dum ∧ Dum) ∨ (u0 = false ∧ Dum ∧ u2 = false ∧ Dum ∧ u4 = true ∧ u5 = true) ∨ (u0 = false ∧ Dum ∧ u2 = true ∧ u3 = false ∧ u4 = true ∧ u5 = true) ∨ (u0 = true ∧ u1 = false ∧ u2 = true ∧ u3 = true ∧ Dum ∧ Dum) ∨ (u0 = true ∧ u1 = false ∧ u2 = false ∧ Dum ∧ u4 = true ∧ u5 = true) ∨ (u0 = true ∧ u1 = false ∧ u2 = true ∧ u3 = false ∧ u4 = true ∧ u5 = true)) → p = some r → P) (g : ((u0 = false ∧ Dum ∧ u2 = false ∧ Dum ∧ u4 = false ∧ Dum) ∨ (u0 = false ∧ Dum ∧ u2 = false ∧ Dum ∧ u4 = true ∧ u5 = false) ∨ (u0 = false ∧ Dum ∧ u2 = true ∧ u3 = false ∧ u4 = false ∧ Dum) ∨ (u0 = false ∧ Dum ∧ u2 = true ∧ u3 = false ∧ u4 = true ∧ u5 = false) ∨ (u0 = true ∧ u1 = false ∧ u2 = false ∧ Dum ∧ u4 = false ∧ Dum) ∨ (u0 = true ∧ u1 = false ∧ u2 = false ∧ Dum ∧ u4 = true ∧ u5 = false) ∨ (u0 = true ∧ u1 = false ∧ u2 = true ∧ u3 = false ∧ u4 = false ∧ Dum) ∨ (u0 = true ∧ u1 = false ∧ u2 = true ∧ u3 = false ∧ u4 = true ∧ u5 = false)) → q = some r → P) (h : (if ((u0 && u1) || ((u2 && u3) || (u4 && u5))) = true then p else q) = some r) : P := by cases u0 <;> cases u1 <;> cases u2 <;> cases u3 <;> cases u4 <;> cases u5 <;> simp_all [Dum]
theorem zep (n : Nat) : 0 + n = n := Nat.zero_add n
def en := PLift.up (And.intro (And.intro (And.intro (And.intro (And.intro qxb.down qii.down) (And.intro @zep @Int.cast_ofNat_Int)) (And.intro (And.intro @List.append_nil.{0} @List.nil_append.{0}) (And.intro @List.cons_append.{0} (And.intro @T.Span.qc @T.xm.qc)))) (And.intro (And.intro (And.intro @T.Sel.qc @T.Op.qc) (And.intro @T.qd.qc (And.intro @T.Row.qc @T.Rx.qc))) (And.intro (And.intro @T.Fmt.qc @T.Form.qc) (And.intro @T.Stop.qc (And.intro @T.ky.qc @T.wm.qc))))) (And.intro (And.intro (And.intro (And.intro @T.State.qc @T.q0y.qc) (And.intro @T.q0w.qc @T.q15.qc)) (And.intro (And.intro @T.q12.qc @T.yj.qc) (And.intro @T.yh.qc (And.intro @T.q1f.qc @T.qx.qc)))) (And.intro (And.intro (And.intro @T.Range.qc @T.q1a.qc) (And.intro @T.q0p.qc (And.intro @T.q1k.qc @T.zb.qc))) (And.intro (And.intro @T.qy.qc @T.q19.qc) (And.intro @T.q0t.qc (And.intro @T.mr.qc @T.q1h.qc))))))
end Go.Proofs.YtllckneefjgafaaGreatDoor
