/-
  Go's structs as Lean's.
-/
import Derived.Lib.ItoaNum
import Derived.Test.YtcelddmcoklooaaGreatDoorJad
set_option linter.unusedSimpArgs false
set_option linter.unusedVariables false
set_option maxRecDepth 100000
namespace Go.Proofs.YtcelddmcoklooaaGreatDoor
open Go Go.Gm
structure T.Span where
 frm : Int
 to : Int
 deriving Inhabited,DecidableEq
def T.Span.enc (x : T.Span) : List PV :=
 [PV.int IntKind.i64 x.frm,PV.int IntKind.i64 x.to]
theorem T.Span.qf (x : T.Span) : x.enc = [PV.int IntKind.i64 x.frm,PV.int IntKind.i64 x.to] := rfl
def T.Span.ok (x : T.Span) : Prop := inI x.frm ∧ inI x.to ∧ True
structure T.Row where
 frm : Bytes
 to : Bytes
 deriving Inhabited,DecidableEq
def T.Row.enc (x : T.Row) : List PV :=
 [PV.str x.frm,PV.str x.to]
theorem T.Row.qf (x : T.Row) : x.enc = [PV.str x.frm,PV.str x.to] := rfl
def T.Row.ok (x : T.Row) : Prop := j3 x.frm ∧ j3 x.to ∧ True
structure T.Rx where
 kind : Int
 char : Bytes
 not : Bool
 rows : (Sl T.Row)
 min : Int
 max : Int
 lazy : Bool
 kids : (Sl T.Rx)
 deriving Inhabited
mutual
def T.Rx.enc : T.Rx → List PV
 | ⟨x0,x1,x2,x3,x4,x5,x6,x7⟩ => [PV.int IntKind.i64 x0,PV.str x1,PV.bool x2,PV.sl x3.nil (szc 2 x3.l) (List.map T.Row.enc x3.l),PV.int IntKind.i64 x4,PV.int IntKind.i64 x5,PV.bool x6,T.Rx.encS x7]
def T.Rx.encS : Sl T.Rx → PV
 | ⟨b,l⟩ => .sl b (szc 8 l) (T.Rx.jg l)
def T.Rx.jg : List T.Rx → List (List PV)
 | [] => []
 | x :: r => x.enc :: T.Rx.jg r
end
theorem T.Rx.uz : ∀ l : List T.Rx,T.Rx.jg l = l.map T.Rx.enc
 | [] => rfl
 | x :: r => by simp [T.Rx.jg,T.Rx.uz r]
theorem T.Rx.q2v (s : Sl T.Rx) : T.Rx.encS s = .sl s.nil (szc 8 s.l) (s.l.map T.Rx.enc) := by cases s; simp [T.Rx.encS,T.Rx.uz]
theorem T.Rx.qf (x : T.Rx) : x.enc = [PV.int IntKind.i64 x.kind,PV.str x.char,PV.bool x.not,PV.sl x.rows.nil (szc 2 x.rows.l) (List.map T.Row.enc x.rows.l),PV.int IntKind.i64 x.min,PV.int IntKind.i64 x.max,PV.bool x.lazy,PV.sl x.kids.nil (szc 8 x.kids.l) (List.map T.Rx.enc x.kids.l)] := by cases x; simp [T.Rx.enc,T.Rx.q2v]
mutual
def T.Rx.ok : T.Rx → Prop
 | ⟨x0,x1,x2,x3,x4,x5,x6,x7⟩ => inI x0 ∧ j3 x1 ∧ jl x2 ∧ (zt T.Row.ok) x3 ∧ inI x4 ∧ inI x5 ∧ jl x6 ∧ T.Rx.okS x7 ∧ True
def T.Rx.okS : Sl T.Rx → Prop
 | ⟨b,l⟩ => (l.length ≤ maxLen ∧ (b = true → l = [])) ∧ T.Rx.okL l
def T.Rx.okL : List T.Rx → Prop
 | [] => True
 | x :: r => x.ok ∧ T.Rx.okL r
end
structure T.Fmt where
 kind : Int
 n : Int
 cas : Int
 thn : Bytes
 els : Bytes
 deriving Inhabited,DecidableEq
def T.Fmt.enc (x : T.Fmt) : List PV :=
 [PV.int IntKind.i64 x.kind,PV.int IntKind.i64 x.n,PV.int IntKind.i64 x.cas,PV.str x.thn,PV.str x.els]
theorem T.Fmt.qf (x : T.Fmt) : x.enc = [PV.int IntKind.i64 x.kind,PV.int IntKind.i64 x.n,PV.int IntKind.i64 x.cas,PV.str x.thn,PV.str x.els] := rfl
def T.Fmt.ok (x : T.Fmt) : Prop := inI x.kind ∧ inI x.n ∧ inI x.cas ∧ j3 x.thn ∧ j3 x.els ∧ True
structure T.Form where
 rx : T.Rx
 fmts : (Sl T.Fmt)
 fold : Bool
 all : Bool
 deriving Inhabited
def T.Form.enc (x : T.Form) : List PV :=
 [PV.int IntKind.i64 x.rx.kind,PV.str x.rx.char,PV.bool x.rx.not,PV.sl x.rx.rows.nil (szc 2 x.rx.rows.l) (List.map T.Row.enc x.rx.rows.l),PV.int IntKind.i64 x.rx.min,PV.int IntKind.i64 x.rx.max,PV.bool x.rx.lazy,PV.sl x.rx.kids.nil (szc 8 x.rx.kids.l) (List.map T.Rx.enc x.rx.kids.l),PV.sl x.fmts.nil (szc 5 x.fmts.l) (List.map T.Fmt.enc x.fmts.l),PV.bool x.fold,PV.bool x.all]
theorem T.Form.qf (x : T.Form) : x.enc = [PV.int IntKind.i64 x.rx.kind,PV.str x.rx.char,PV.bool x.rx.not,PV.sl x.rx.rows.nil (szc 2 x.rx.rows.l) (List.map T.Row.enc x.rx.rows.l),PV.int IntKind.i64 x.rx.min,PV.int IntKind.i64 x.rx.max,PV.bool x.rx.lazy,PV.sl x.rx.kids.nil (szc 8 x.rx.kids.l) (List.map T.Rx.enc x.rx.kids.l),PV.sl x.fmts.nil (szc 5 x.fmts.l) (List.map T.Fmt.enc x.fmts.l),PV.bool x.fold,PV.bool x.all] := rfl
def T.Form.ok (x : T.Form) : Prop := T.Rx.ok x.rx ∧ (zt T.Fmt.ok) x.fmts ∧ jl x.fold ∧ jl x.all ∧ True
structure T.Stop where
 span : T.Span
 n : Int
 up : Int
 first : Bool
 turned : Bool
 form : T.Form
 opts : (Sl Bytes)
 deriving Inhabited
def T.Stop.enc (x : T.Stop) : List PV :=
 [PV.int IntKind.i64 x.span.frm,PV.int IntKind.i64 x.span.to,PV.int IntKind.i64 x.n,PV.int IntKind.i64 x.up,PV.bool x.first,PV.bool x.turned,PV.int IntKind.i64 x.form.rx.kind,PV.str x.form.rx.char,PV.bool x.form.rx.not,PV.sl x.form.rx.rows.nil (szc 2 x.form.rx.rows.l) (List.map T.Row.enc x.form.rx.rows.l),PV.int IntKind.i64 x.form.rx.min,PV.int IntKind.i64 x.form.rx.max,PV.bool x.form.rx.lazy,PV.sl x.form.rx.kids.nil (szc 8 x.form.rx.kids.l) (List.map T.Rx.enc x.form.rx.kids.l),PV.sl x.form.fmts.nil (szc 5 x.form.fmts.l) (List.map T.Fmt.enc x.form.fmts.l),PV.bool x.form.fold,PV.bool x.form.all,PV.sl x.opts.nil (szc 1 x.opts.l) (List.map kg x.opts.l)]
theorem T.Stop.qf (x : T.Stop) : x.enc = [PV.int IntKind.i64 x.span.frm,PV.int IntKind.i64 x.span.to,PV.int IntKind.i64 x.n,PV.int IntKind.i64 x.up,PV.bool x.first,PV.bool x.turned,PV.int IntKind.i64 x.form.rx.kind,PV.str x.form.rx.char,PV.bool x.form.rx.not,PV.sl x.form.rx.rows.nil (szc 2 x.form.rx.rows.l) (List.map T.Row.enc x.form.rx.rows.l),PV.int IntKind.i64 x.form.rx.min,PV.int IntKind.i64 x.form.rx.max,PV.bool x.form.rx.lazy,PV.sl x.form.rx.kids.nil (szc 8 x.form.rx.kids.l) (List.map T.Rx.enc x.form.rx.kids.l),PV.sl x.form.fmts.nil (szc 5 x.form.fmts.l) (List.map T.Fmt.enc x.form.fmts.l),PV.bool x.form.fold,PV.bool x.form.all,PV.sl x.opts.nil (szc 1 x.opts.l) (List.map kg x.opts.l)] := rfl
def T.Stop.ok (x : T.Stop) : Prop := T.Span.ok x.span ∧ inI x.n ∧ inI x.up ∧ jl x.first ∧ jl x.turned ∧ T.Form.ok x.form ∧ (zt j3) x.opts ∧ True
structure T.qc where
 span : T.Span
 stops : (Sl T.Stop)
 deriving Inhabited
def T.qc.enc (x : T.qc) : List PV :=
 [PV.int IntKind.i64 x.span.frm,PV.int IntKind.i64 x.span.to,PV.sl x.stops.nil (szc 18 x.stops.l) (List.map T.Stop.enc x.stops.l)]
theorem T.qc.qf (x : T.qc) : x.enc = [PV.int IntKind.i64 x.span.frm,PV.int IntKind.i64 x.span.to,PV.sl x.stops.nil (szc 18 x.stops.l) (List.map T.Stop.enc x.stops.l)] := rfl
def T.qc.ok (x : T.qc) : Prop := T.Span.ok x.span ∧ (zt T.Stop.ok) x.stops ∧ True
structure T.Sel where
 anchor : Int
 head : Int
 deriving Inhabited,DecidableEq
def T.Sel.enc (x : T.Sel) : List PV :=
 [PV.int IntKind.i64 x.anchor,PV.int IntKind.i64 x.head]
theorem T.Sel.qf (x : T.Sel) : x.enc = [PV.int IntKind.i64 x.anchor,PV.int IntKind.i64 x.head] := rfl
def T.Sel.ok (x : T.Sel) : Prop := inI x.anchor ∧ inI x.head ∧ True
structure T.qb where
 cur : Int
 insts : (Sl T.qc)
 deriving Inhabited
def T.qb.enc (x : T.qb) : List PV :=
 [PV.int IntKind.i64 x.cur,PV.sl x.insts.nil (szc 3 x.insts.l) (List.map T.qc.enc x.insts.l)]
theorem T.qb.qf (x : T.qb) : x.enc = [PV.int IntKind.i64 x.cur,PV.sl x.insts.nil (szc 3 x.insts.l) (List.map T.qc.enc x.insts.l)] := rfl
def T.qb.ok (x : T.qb) : Prop := inI x.cur ∧ (zt T.qc.ok) x.insts ∧ True
structure T.State where
 text : Bytes
 sels : (Sl T.Sel)
 sessions : (Sl T.qb)
 deriving Inhabited
def T.State.enc (x : T.State) : List PV :=
 [PV.str x.text,PV.sl x.sels.nil (szc 2 x.sels.l) (List.map T.Sel.enc x.sels.l),PV.sl x.sessions.nil (szc 2 x.sessions.l) (List.map T.qb.enc x.sessions.l)]
theorem T.State.qf (x : T.State) : x.enc = [PV.str x.text,PV.sl x.sels.nil (szc 2 x.sels.l) (List.map T.Sel.enc x.sels.l),PV.sl x.sessions.nil (szc 2 x.sessions.l) (List.map T.qb.enc x.sessions.l)] := rfl
def T.State.ok (x : T.State) : Prop := j3 x.text ∧ (zt T.Sel.ok) x.sels ∧ (zt T.qb.ok) x.sessions ∧ True
structure T.wz where
 span : T.Span
 text : Bytes
 deriving Inhabited,DecidableEq
def T.wz.enc (x : T.wz) : List PV :=
 [PV.int IntKind.i64 x.span.frm,PV.int IntKind.i64 x.span.to,PV.str x.text]
theorem T.wz.qf (x : T.wz) : x.enc = [PV.int IntKind.i64 x.span.frm,PV.int IntKind.i64 x.span.to,PV.str x.text] := rfl
def T.wz.ok (x : T.wz) : Prop := T.Span.ok x.span ∧ j3 x.text ∧ True
structure T.Op where
 kind : Int
 name : Bytes
 text : Bytes
 n : Int
 extend : Bool
 edits : (Sl T.wz)
 sels : (Sl T.Sel)
 deriving Inhabited,DecidableEq
def T.Op.enc (x : T.Op) : List PV :=
 [PV.int IntKind.i64 x.kind,PV.str x.name,PV.str x.text,PV.int IntKind.i64 x.n,PV.bool x.extend,PV.sl x.edits.nil (szc 3 x.edits.l) (List.map T.wz.enc x.edits.l),PV.sl x.sels.nil (szc 2 x.sels.l) (List.map T.Sel.enc x.sels.l)]
theorem T.Op.qf (x : T.Op) : x.enc = [PV.int IntKind.i64 x.kind,PV.str x.name,PV.str x.text,PV.int IntKind.i64 x.n,PV.bool x.extend,PV.sl x.edits.nil (szc 3 x.edits.l) (List.map T.wz.enc x.edits.l),PV.sl x.sels.nil (szc 2 x.sels.l) (List.map T.Sel.enc x.sels.l)] := rfl
def T.Op.ok (x : T.Op) : Prop := inI x.kind ∧ j3 x.name ∧ j3 x.text ∧ inI x.n ∧ jl x.extend ∧ (zt T.wz.ok) x.edits ∧ (zt T.Sel.ok) x.sels ∧ True
structure T.ui where
 name : Bytes
 value : Bytes
 deriving Inhabited,DecidableEq
def T.ui.enc (x : T.ui) : List PV :=
 [PV.str x.name,PV.str x.value]
theorem T.ui.qf (x : T.ui) : x.enc = [PV.str x.name,PV.str x.value] := rfl
def T.ui.ok (x : T.ui) : Prop := j3 x.name ∧ j3 x.value ∧ True
structure T.q1l where
 st : T.State
 env : (Sl T.ui)
 behind : (Sl T.State)
 ahead : (Sl T.State)
 deriving Inhabited
def T.q1l.enc (x : T.q1l) : List PV :=
 [PV.str x.st.text,PV.sl x.st.sels.nil (szc 2 x.st.sels.l) (List.map T.Sel.enc x.st.sels.l),PV.sl x.st.sessions.nil (szc 2 x.st.sessions.l) (List.map T.qb.enc x.st.sessions.l),PV.sl x.env.nil (szc 2 x.env.l) (List.map T.ui.enc x.env.l),PV.sl x.behind.nil (szc 3 x.behind.l) (List.map T.State.enc x.behind.l),PV.sl x.ahead.nil (szc 3 x.ahead.l) (List.map T.State.enc x.ahead.l)]
theorem T.q1l.qf (x : T.q1l) : x.enc = [PV.str x.st.text,PV.sl x.st.sels.nil (szc 2 x.st.sels.l) (List.map T.Sel.enc x.st.sels.l),PV.sl x.st.sessions.nil (szc 2 x.st.sessions.l) (List.map T.qb.enc x.st.sessions.l),PV.sl x.env.nil (szc 2 x.env.l) (List.map T.ui.enc x.env.l),PV.sl x.behind.nil (szc 3 x.behind.l) (List.map T.State.enc x.behind.l),PV.sl x.ahead.nil (szc 3 x.ahead.l) (List.map T.State.enc x.ahead.l)] := rfl
def T.q1l.ok (x : T.q1l) : Prop := T.State.ok x.st ∧ (zt T.ui.ok) x.env ∧ (zt T.State.ok) x.behind ∧ (zt T.State.ok) x.ahead ∧ True
structure T.q1y where
 nums : (Sl Int)
 told : Int
 last : Int
 deriving Inhabited,DecidableEq
def T.q1y.enc (x : T.q1y) : List PV :=
 [PV.sl x.nums.nil (szc 1 x.nums.l) (List.map (kE IntKind.u32) x.nums.l),PV.int IntKind.i64 x.told,PV.int IntKind.u32 x.last]
theorem T.q1y.qf (x : T.q1y) : x.enc = [PV.sl x.nums.nil (szc 1 x.nums.l) (List.map (kE IntKind.u32) x.nums.l),PV.int IntKind.i64 x.told,PV.int IntKind.u32 x.last] := rfl
def T.q1y.ok (x : T.q1y) : Prop := (zt inU) x.nums ∧ inI x.told ∧ inU x.last ∧ True
structure T.q29 where
 span : T.Span
 parts : (Sl T.Span)
 deriving Inhabited,DecidableEq
def T.q29.enc (x : T.q29) : List PV :=
 [PV.int IntKind.i64 x.span.frm,PV.int IntKind.i64 x.span.to,PV.sl x.parts.nil (szc 2 x.parts.l) (List.map T.Span.enc x.parts.l)]
theorem T.q29.qf (x : T.q29) : x.enc = [PV.int IntKind.i64 x.span.frm,PV.int IntKind.i64 x.span.to,PV.sl x.parts.nil (szc 2 x.parts.l) (List.map T.Span.enc x.parts.l)] := rfl
def T.q29.ok (x : T.q29) : Prop := T.Span.ok x.span ∧ (zt T.Span.ok) x.parts ∧ True
structure T.q1s where
 most : Int
 behind : (Sl T.State)
 ahead : (Sl T.State)
 deriving Inhabited
def T.q1s.enc (x : T.q1s) : List PV :=
 [PV.int IntKind.i64 x.most,PV.sl x.behind.nil (szc 3 x.behind.l) (List.map T.State.enc x.behind.l),PV.sl x.ahead.nil (szc 3 x.ahead.l) (List.map T.State.enc x.ahead.l)]
theorem T.q1s.qf (x : T.q1s) : x.enc = [PV.int IntKind.i64 x.most,PV.sl x.behind.nil (szc 3 x.behind.l) (List.map T.State.enc x.behind.l),PV.sl x.ahead.nil (szc 3 x.ahead.l) (List.map T.State.enc x.ahead.l)] := rfl
def T.q1s.ok (x : T.q1s) : Prop := inI x.most ∧ (zt T.State.ok) x.behind ∧ (zt T.State.ok) x.ahead ∧ True
structure T.q17 where
 s : Bytes
 at_ : Int
 deriving Inhabited,DecidableEq
def T.q17.enc (x : T.q17) : List PV :=
 [PV.str x.s,PV.int IntKind.i64 x.at_]
theorem T.q17.qf (x : T.q17) : x.enc = [PV.str x.s,PV.int IntKind.i64 x.at_] := rfl
def T.q17.ok (x : T.q17) : Prop := j3 x.s ∧ inI x.at_ ∧ True
structure T.z8 where
 rx : T.Rx
 kids : (Sl T.z8)
 lo : Int
 hi : Int
 deriving Inhabited
mutual
def T.z8.enc : T.z8 → List PV
 | ⟨x0,x1,x2,x3⟩ => [PV.int IntKind.i64 x0.kind,PV.str x0.char,PV.bool x0.not,PV.sl x0.rows.nil (szc 2 x0.rows.l) (List.map T.Row.enc x0.rows.l),PV.int IntKind.i64 x0.min,PV.int IntKind.i64 x0.max,PV.bool x0.lazy,PV.sl x0.kids.nil (szc 8 x0.kids.l) (List.map T.Rx.enc x0.kids.l),T.z8.encS x1,PV.int IntKind.i64 x2,PV.int IntKind.i64 x3]
def T.z8.encS : Sl T.z8 → PV
 | ⟨b,l⟩ => .sl b (szc 11 l) (T.z8.jg l)
def T.z8.jg : List T.z8 → List (List PV)
 | [] => []
 | x :: r => x.enc :: T.z8.jg r
end
theorem T.z8.uz : ∀ l : List T.z8,T.z8.jg l = l.map T.z8.enc
 | [] => rfl
 | x :: r => by simp [T.z8.jg,T.z8.uz r]
theorem T.z8.q2v (s : Sl T.z8) : T.z8.encS s = .sl s.nil (szc 11 s.l) (s.l.map T.z8.enc) := by cases s; simp [T.z8.encS,T.z8.uz]
theorem T.z8.qf (x : T.z8) : x.enc = [PV.int IntKind.i64 x.rx.kind,PV.str x.rx.char,PV.bool x.rx.not,PV.sl x.rx.rows.nil (szc 2 x.rx.rows.l) (List.map T.Row.enc x.rx.rows.l),PV.int IntKind.i64 x.rx.min,PV.int IntKind.i64 x.rx.max,PV.bool x.rx.lazy,PV.sl x.rx.kids.nil (szc 8 x.rx.kids.l) (List.map T.Rx.enc x.rx.kids.l),PV.sl x.kids.nil (szc 11 x.kids.l) (List.map T.z8.enc x.kids.l),PV.int IntKind.i64 x.lo,PV.int IntKind.i64 x.hi] := by cases x; simp [T.z8.enc,T.z8.q2v]
mutual
def T.z8.ok : T.z8 → Prop
 | ⟨x0,x1,x2,x3⟩ => T.Rx.ok x0 ∧ T.z8.okS x1 ∧ inI x2 ∧ inI x3 ∧ True
def T.z8.okS : Sl T.z8 → Prop
 | ⟨b,l⟩ => (l.length ≤ maxLen ∧ (b = true → l = [])) ∧ T.z8.okL l
def T.z8.okL : List T.z8 → Prop
 | [] => True
 | x :: r => x.ok ∧ T.z8.okL r
end
structure T.q1h where
 top : T.z8
 fold : Bool
 chars : (Sl Bytes)
 places : (Sl Int)
 parts : (Sl T.Span)
 fuel : Int
 out : Bool
 deriving Inhabited
def T.q1h.enc (x : T.q1h) : List PV :=
 [PV.int IntKind.i64 x.top.rx.kind,PV.str x.top.rx.char,PV.bool x.top.rx.not,PV.sl x.top.rx.rows.nil (szc 2 x.top.rx.rows.l) (List.map T.Row.enc x.top.rx.rows.l),PV.int IntKind.i64 x.top.rx.min,PV.int IntKind.i64 x.top.rx.max,PV.bool x.top.rx.lazy,PV.sl x.top.rx.kids.nil (szc 8 x.top.rx.kids.l) (List.map T.Rx.enc x.top.rx.kids.l),PV.sl x.top.kids.nil (szc 11 x.top.kids.l) (List.map T.z8.enc x.top.kids.l),PV.int IntKind.i64 x.top.lo,PV.int IntKind.i64 x.top.hi,PV.bool x.fold,PV.sl x.chars.nil (szc 1 x.chars.l) (List.map kg x.chars.l),PV.sl x.places.nil (szc 1 x.places.l) (List.map zn x.places.l),PV.sl x.parts.nil (szc 2 x.parts.l) (List.map T.Span.enc x.parts.l),PV.int IntKind.i64 x.fuel,PV.bool x.out]
theorem T.q1h.qf (x : T.q1h) : x.enc = [PV.int IntKind.i64 x.top.rx.kind,PV.str x.top.rx.char,PV.bool x.top.rx.not,PV.sl x.top.rx.rows.nil (szc 2 x.top.rx.rows.l) (List.map T.Row.enc x.top.rx.rows.l),PV.int IntKind.i64 x.top.rx.min,PV.int IntKind.i64 x.top.rx.max,PV.bool x.top.rx.lazy,PV.sl x.top.rx.kids.nil (szc 8 x.top.rx.kids.l) (List.map T.Rx.enc x.top.rx.kids.l),PV.sl x.top.kids.nil (szc 11 x.top.kids.l) (List.map T.z8.enc x.top.kids.l),PV.int IntKind.i64 x.top.lo,PV.int IntKind.i64 x.top.hi,PV.bool x.fold,PV.sl x.chars.nil (szc 1 x.chars.l) (List.map kg x.chars.l),PV.sl x.places.nil (szc 1 x.places.l) (List.map zn x.places.l),PV.sl x.parts.nil (szc 2 x.parts.l) (List.map T.Span.enc x.parts.l),PV.int IntKind.i64 x.fuel,PV.bool x.out] := rfl
def T.q1h.ok (x : T.q1h) : Prop := T.z8.ok x.top ∧ jl x.fold ∧ (zt j3) x.chars ∧ (zt inI) x.places ∧ (zt T.Span.ok) x.parts ∧ inI x.fuel ∧ jl x.out ∧ True
structure T.q1j where
 bytes : Int
 breaks : Int
 runes : Int
 units : Int
 deriving Inhabited,DecidableEq
def T.q1j.enc (x : T.q1j) : List PV :=
 [PV.int IntKind.i64 x.bytes,PV.int IntKind.i64 x.breaks,PV.int IntKind.i64 x.runes,PV.int IntKind.i64 x.units]
theorem T.q1j.qf (x : T.q1j) : x.enc = [PV.int IntKind.i64 x.bytes,PV.int IntKind.i64 x.breaks,PV.int IntKind.i64 x.runes,PV.int IntKind.i64 x.units] := rfl
def T.q1j.ok (x : T.q1j) : Prop := inI x.bytes ∧ inI x.breaks ∧ inI x.runes ∧ inI x.units ∧ True
structure T.yx where
 id : Int
 held : Bool
 deriving Inhabited,DecidableEq
def T.yx.enc (x : T.yx) : List PV :=
 [PV.int IntKind.i64 x.id,PV.bool x.held]
theorem T.yx.qf (x : T.yx) : x.enc = [PV.int IntKind.i64 x.id,PV.bool x.held] := rfl
def T.yx.ok (x : T.yx) : Prop := inI x.id ∧ jl x.held ∧ True
structure T.uf where
 session : T.qb
 marks : (Sl (Sl T.yx))
 deriving Inhabited
def T.uf.enc (x : T.uf) : List PV :=
 [PV.int IntKind.i64 x.session.cur,PV.sl x.session.insts.nil (szc 3 x.session.insts.l) (List.map T.qc.enc x.session.insts.l),PV.sl x.marks.nil (szc 1 x.marks.l) (List.map (slE 2 T.yx.enc) x.marks.l)]
theorem T.uf.qf (x : T.uf) : x.enc = [PV.int IntKind.i64 x.session.cur,PV.sl x.session.insts.nil (szc 3 x.session.insts.l) (List.map T.qc.enc x.session.insts.l),PV.sl x.marks.nil (szc 1 x.marks.l) (List.map (slE 2 T.yx.enc) x.marks.l)] := rfl
def T.uf.ok (x : T.uf) : Prop := T.qb.ok x.session ∧ (zt (zt T.yx.ok)) x.marks ∧ True
structure T.q27 where
 text : Bytes
 sels : (Sl T.Sel)
 sessions : (Sl T.uf)
 deriving Inhabited
def T.q27.enc (x : T.q27) : List PV :=
 [PV.str x.text,PV.sl x.sels.nil (szc 2 x.sels.l) (List.map T.Sel.enc x.sels.l),PV.sl x.sessions.nil (szc 3 x.sessions.l) (List.map T.uf.enc x.sessions.l)]
theorem T.q27.qf (x : T.q27) : x.enc = [PV.str x.text,PV.sl x.sels.nil (szc 2 x.sels.l) (List.map T.Sel.enc x.sels.l),PV.sl x.sessions.nil (szc 3 x.sessions.l) (List.map T.uf.enc x.sessions.l)] := rfl
def T.q27.ok (x : T.q27) : Prop := j3 x.text ∧ (zt T.Sel.ok) x.sels ∧ (zt T.uf.ok) x.sessions ∧ True
structure T.qz where
 kind : Int
 text : Bytes
 n : Int
 has : Bool
 turned : Bool
 form : T.Form
 opts : (Sl Bytes)
 kids : (Sl T.qz)
 deriving Inhabited
mutual
def T.qz.enc : T.qz → List PV
 | ⟨x0,x1,x2,x3,x4,x5,x6,x7⟩ => [PV.int IntKind.i64 x0,PV.str x1,PV.int IntKind.i64 x2,PV.bool x3,PV.bool x4,PV.int IntKind.i64 x5.rx.kind,PV.str x5.rx.char,PV.bool x5.rx.not,PV.sl x5.rx.rows.nil (szc 2 x5.rx.rows.l) (List.map T.Row.enc x5.rx.rows.l),PV.int IntKind.i64 x5.rx.min,PV.int IntKind.i64 x5.rx.max,PV.bool x5.rx.lazy,PV.sl x5.rx.kids.nil (szc 8 x5.rx.kids.l) (List.map T.Rx.enc x5.rx.kids.l),PV.sl x5.fmts.nil (szc 5 x5.fmts.l) (List.map T.Fmt.enc x5.fmts.l),PV.bool x5.fold,PV.bool x5.all,PV.sl x6.nil (szc 1 x6.l) (List.map kg x6.l),T.qz.encS x7]
def T.qz.encS : Sl T.qz → PV
 | ⟨b,l⟩ => .sl b (szc 18 l) (T.qz.jg l)
def T.qz.jg : List T.qz → List (List PV)
 | [] => []
 | x :: r => x.enc :: T.qz.jg r
end
theorem T.qz.uz : ∀ l : List T.qz,T.qz.jg l = l.map T.qz.enc
 | [] => rfl
 | x :: r => by simp [T.qz.jg,T.qz.uz r]
theorem T.qz.q2v (s : Sl T.qz) : T.qz.encS s = .sl s.nil (szc 18 s.l) (s.l.map T.qz.enc) := by cases s; simp [T.qz.encS,T.qz.uz]
theorem T.qz.qf (x : T.qz) : x.enc = [PV.int IntKind.i64 x.kind,PV.str x.text,PV.int IntKind.i64 x.n,PV.bool x.has,PV.bool x.turned,PV.int IntKind.i64 x.form.rx.kind,PV.str x.form.rx.char,PV.bool x.form.rx.not,PV.sl x.form.rx.rows.nil (szc 2 x.form.rx.rows.l) (List.map T.Row.enc x.form.rx.rows.l),PV.int IntKind.i64 x.form.rx.min,PV.int IntKind.i64 x.form.rx.max,PV.bool x.form.rx.lazy,PV.sl x.form.rx.kids.nil (szc 8 x.form.rx.kids.l) (List.map T.Rx.enc x.form.rx.kids.l),PV.sl x.form.fmts.nil (szc 5 x.form.fmts.l) (List.map T.Fmt.enc x.form.fmts.l),PV.bool x.form.fold,PV.bool x.form.all,PV.sl x.opts.nil (szc 1 x.opts.l) (List.map kg x.opts.l),PV.sl x.kids.nil (szc 18 x.kids.l) (List.map T.qz.enc x.kids.l)] := by cases x; simp [T.qz.enc,T.qz.q2v]
mutual
def T.qz.ok : T.qz → Prop
 | ⟨x0,x1,x2,x3,x4,x5,x6,x7⟩ => inI x0 ∧ j3 x1 ∧ inI x2 ∧ jl x3 ∧ jl x4 ∧ T.Form.ok x5 ∧ (zt j3) x6 ∧ T.qz.okS x7 ∧ True
def T.qz.okS : Sl T.qz → Prop
 | ⟨b,l⟩ => (l.length ≤ maxLen ∧ (b = true → l = [])) ∧ T.qz.okL l
def T.qz.okL : List T.qz → Prop
 | [] => True
 | x :: r => x.ok ∧ T.qz.okL r
end
structure T.Range where
 span : T.Span
 fromRight : Bool
 toRight : Bool
 parent : Int
 deriving Inhabited,DecidableEq
def T.Range.enc (x : T.Range) : List PV :=
 [PV.int IntKind.i64 x.span.frm,PV.int IntKind.i64 x.span.to,PV.bool x.fromRight,PV.bool x.toRight,PV.int IntKind.i64 x.parent]
theorem T.Range.qf (x : T.Range) : x.enc = [PV.int IntKind.i64 x.span.frm,PV.int IntKind.i64 x.span.to,PV.bool x.fromRight,PV.bool x.toRight,PV.int IntKind.i64 x.parent] := rfl
def T.Range.ok (x : T.Range) : Prop := T.Span.ok x.span ∧ jl x.fromRight ∧ jl x.toRight ∧ inI x.parent ∧ True
structure T.q1k where
 part : T.qz
 end_ : Int
 ok_ : Bool
 deriving Inhabited
def T.q1k.enc (x : T.q1k) : List PV :=
 [PV.int IntKind.i64 x.part.kind,PV.str x.part.text,PV.int IntKind.i64 x.part.n,PV.bool x.part.has,PV.bool x.part.turned,PV.int IntKind.i64 x.part.form.rx.kind,PV.str x.part.form.rx.char,PV.bool x.part.form.rx.not,PV.sl x.part.form.rx.rows.nil (szc 2 x.part.form.rx.rows.l) (List.map T.Row.enc x.part.form.rx.rows.l),PV.int IntKind.i64 x.part.form.rx.min,PV.int IntKind.i64 x.part.form.rx.max,PV.bool x.part.form.rx.lazy,PV.sl x.part.form.rx.kids.nil (szc 8 x.part.form.rx.kids.l) (List.map T.Rx.enc x.part.form.rx.kids.l),PV.sl x.part.form.fmts.nil (szc 5 x.part.form.fmts.l) (List.map T.Fmt.enc x.part.form.fmts.l),PV.bool x.part.form.fold,PV.bool x.part.form.all,PV.sl x.part.opts.nil (szc 1 x.part.opts.l) (List.map kg x.part.opts.l),PV.sl x.part.kids.nil (szc 18 x.part.kids.l) (List.map T.qz.enc x.part.kids.l),PV.int IntKind.i64 x.end_,PV.bool x.ok_]
theorem T.q1k.qf (x : T.q1k) : x.enc = [PV.int IntKind.i64 x.part.kind,PV.str x.part.text,PV.int IntKind.i64 x.part.n,PV.bool x.part.has,PV.bool x.part.turned,PV.int IntKind.i64 x.part.form.rx.kind,PV.str x.part.form.rx.char,PV.bool x.part.form.rx.not,PV.sl x.part.form.rx.rows.nil (szc 2 x.part.form.rx.rows.l) (List.map T.Row.enc x.part.form.rx.rows.l),PV.int IntKind.i64 x.part.form.rx.min,PV.int IntKind.i64 x.part.form.rx.max,PV.bool x.part.form.rx.lazy,PV.sl x.part.form.rx.kids.nil (szc 8 x.part.form.rx.kids.l) (List.map T.Rx.enc x.part.form.rx.kids.l),PV.sl x.part.form.fmts.nil (szc 5 x.part.form.fmts.l) (List.map T.Fmt.enc x.part.form.fmts.l),PV.bool x.part.form.fold,PV.bool x.part.form.all,PV.sl x.part.opts.nil (szc 1 x.part.opts.l) (List.map kg x.part.opts.l),PV.sl x.part.kids.nil (szc 18 x.part.kids.l) (List.map T.qz.enc x.part.kids.l),PV.int IntKind.i64 x.end_,PV.bool x.ok_] := rfl
def T.q1k.ok (x : T.q1k) : Prop := T.qz.ok x.part ∧ inI x.end_ ∧ jl x.ok_ ∧ True
structure T.q28 where
 e : T.wz
 does : (Sl (Sl Int))
 inst : Int
 place : Int
 deriving Inhabited,DecidableEq
def T.q28.enc (x : T.q28) : List PV :=
 [PV.int IntKind.i64 x.e.span.frm,PV.int IntKind.i64 x.e.span.to,PV.str x.e.text,PV.sl x.does.nil (szc 1 x.does.l) (List.map (slE 1 zn) x.does.l),PV.int IntKind.i64 x.inst,PV.int IntKind.i64 x.place]
theorem T.q28.qf (x : T.q28) : x.enc = [PV.int IntKind.i64 x.e.span.frm,PV.int IntKind.i64 x.e.span.to,PV.str x.e.text,PV.sl x.does.nil (szc 1 x.does.l) (List.map (slE 1 zn) x.does.l),PV.int IntKind.i64 x.inst,PV.int IntKind.i64 x.place] := rfl
def T.q28.ok (x : T.q28) : Prop := T.wz.ok x.e ∧ (zt (zt inI)) x.does ∧ inI x.inst ∧ inI x.place ∧ True
structure T.zf where
 text : Bytes
 adapt : Bool
 stop : Bool
 turned : Bool
 form : T.Form
 n : Int
 first : Bool
 opts : (Sl Bytes)
 kids : (Sl T.zf)
 size : Int
 deriving Inhabited
mutual
def T.zf.enc : T.zf → List PV
 | ⟨x0,x1,x2,x3,x4,x5,x6,x7,x8,x9⟩ => [PV.str x0,PV.bool x1,PV.bool x2,PV.bool x3,PV.int IntKind.i64 x4.rx.kind,PV.str x4.rx.char,PV.bool x4.rx.not,PV.sl x4.rx.rows.nil (szc 2 x4.rx.rows.l) (List.map T.Row.enc x4.rx.rows.l),PV.int IntKind.i64 x4.rx.min,PV.int IntKind.i64 x4.rx.max,PV.bool x4.rx.lazy,PV.sl x4.rx.kids.nil (szc 8 x4.rx.kids.l) (List.map T.Rx.enc x4.rx.kids.l),PV.sl x4.fmts.nil (szc 5 x4.fmts.l) (List.map T.Fmt.enc x4.fmts.l),PV.bool x4.fold,PV.bool x4.all,PV.int IntKind.i64 x5,PV.bool x6,PV.sl x7.nil (szc 1 x7.l) (List.map kg x7.l),T.zf.encS x8,PV.int IntKind.i64 x9]
def T.zf.encS : Sl T.zf → PV
 | ⟨b,l⟩ => .sl b (szc 20 l) (T.zf.jg l)
def T.zf.jg : List T.zf → List (List PV)
 | [] => []
 | x :: r => x.enc :: T.zf.jg r
end
theorem T.zf.uz : ∀ l : List T.zf,T.zf.jg l = l.map T.zf.enc
 | [] => rfl
 | x :: r => by simp [T.zf.jg,T.zf.uz r]
theorem T.zf.q2v (s : Sl T.zf) : T.zf.encS s = .sl s.nil (szc 20 s.l) (s.l.map T.zf.enc) := by cases s; simp [T.zf.encS,T.zf.uz]
theorem T.zf.qf (x : T.zf) : x.enc = [PV.str x.text,PV.bool x.adapt,PV.bool x.stop,PV.bool x.turned,PV.int IntKind.i64 x.form.rx.kind,PV.str x.form.rx.char,PV.bool x.form.rx.not,PV.sl x.form.rx.rows.nil (szc 2 x.form.rx.rows.l) (List.map T.Row.enc x.form.rx.rows.l),PV.int IntKind.i64 x.form.rx.min,PV.int IntKind.i64 x.form.rx.max,PV.bool x.form.rx.lazy,PV.sl x.form.rx.kids.nil (szc 8 x.form.rx.kids.l) (List.map T.Rx.enc x.form.rx.kids.l),PV.sl x.form.fmts.nil (szc 5 x.form.fmts.l) (List.map T.Fmt.enc x.form.fmts.l),PV.bool x.form.fold,PV.bool x.form.all,PV.int IntKind.i64 x.n,PV.bool x.first,PV.sl x.opts.nil (szc 1 x.opts.l) (List.map kg x.opts.l),PV.sl x.kids.nil (szc 20 x.kids.l) (List.map T.zf.enc x.kids.l),PV.int IntKind.i64 x.size] := by cases x; simp [T.zf.enc,T.zf.q2v]
mutual
def T.zf.ok : T.zf → Prop
 | ⟨x0,x1,x2,x3,x4,x5,x6,x7,x8,x9⟩ => j3 x0 ∧ jl x1 ∧ jl x2 ∧ jl x3 ∧ T.Form.ok x4 ∧ inI x5 ∧ jl x6 ∧ (zt j3) x7 ∧ T.zf.okS x8 ∧ inI x9 ∧ True
def T.zf.okS : Sl T.zf → Prop
 | ⟨b,l⟩ => (l.length ≤ maxLen ∧ (b = true → l = [])) ∧ T.zf.okL l
def T.zf.okL : List T.zf → Prop
 | [] => True
 | x :: r => x.ok ∧ T.zf.okL r
end
structure T.q1u where
 text : Bytes
 deriving Inhabited,DecidableEq
def T.q1u.enc (x : T.q1u) : List PV :=
 [PV.str x.text]
theorem T.q1u.qf (x : T.q1u) : x.enc = [PV.str x.text] := rfl
def T.q1u.ok (x : T.q1u) : Prop := j3 x.text ∧ True
structure T.q08 where
 all : (Sl Bytes)
 at_ : Int
 deriving Inhabited,DecidableEq
def T.q08.enc (x : T.q08) : List PV :=
 [PV.sl x.all.nil (szc 1 x.all.l) (List.map kg x.all.l),PV.int IntKind.i64 x.at_]
theorem T.q08.qf (x : T.q08) : x.enc = [PV.sl x.all.nil (szc 1 x.all.l) (List.map kg x.all.l),PV.int IntKind.i64 x.at_] := rfl
def T.q08.ok (x : T.q08) : Prop := (zt j3) x.all ∧ inI x.at_ ∧ True
structure T.q1w where
 place : T.q08
 deep : Int
 deriving Inhabited,DecidableEq
def T.q1w.enc (x : T.q1w) : List PV :=
 [PV.sl x.place.all.nil (szc 1 x.place.all.l) (List.map kg x.place.all.l),PV.int IntKind.i64 x.place.at_,PV.int IntKind.i64 x.deep]
theorem T.q1w.qf (x : T.q1w) : x.enc = [PV.sl x.place.all.nil (szc 1 x.place.all.l) (List.map kg x.place.all.l),PV.int IntKind.i64 x.place.at_,PV.int IntKind.i64 x.deep] := rfl
def T.q1w.ok (x : T.q1w) : Prop := T.q08.ok x.place ∧ inI x.deep ∧ True
def aw4 : Option Bool := some true
theorem qa2 {α : Type} {u0 u1 : Bool} {p q : Option α} {r : α} {P : Prop} (f : u0 = true → u1 = true → p = some r → P) (g : ((u0 = false ∧ Dum) ∨ (u0 = true ∧ u1 = false)) → q = some r → P) (h : (if (u0 && u1) = true then p else q) = some r) : P := by cases u0 <;> cases u1 <;> simp_all [Dum]
theorem q09 {α : Type} {u0 u1 : Bool} {p q : Option α} {r : α} {P : Prop} (f : ((u0 = true ∧ Dum) ∨ (u0 = false ∧ u1 = true)) → p = some r → P) (g : u0 = false → u1 = false → q = some r → P) (h : (if (u0 || u1) = true then p else q) = some r) : P := by cases u0 <;> cases u1 <;> simp_all [Dum]
theorem qgk {α : Type} {u0 u1 u2 : Bool} {p q : Option α} {r : α} {P : Prop} (f : ((u0 = true ∧ Dum ∧ Dum) ∨ (u0 = false ∧ u1 = true ∧ u2 = true)) → p = some r → P) (g : ((u0 = false ∧ u1 = false ∧ Dum) ∨ (u0 = false ∧ u1 = true ∧ u2 = false)) → q = some r → P) (h : (if (u0 || (u1 && u2)) = true then p else q) = some r) : P := by cases u0 <;> cases u1 <;> cases u2 <;> simp_all [Dum]
theorem q9f {α : Type} {u0 u1 u2 : Bool} {p q : Option α} {r : α} {P : Prop} (f : ((u0 = true ∧ Dum ∧ Dum) ∨ (u0 = false ∧ u1 = true ∧ Dum) ∨ (u0 = false ∧ u1 = false ∧ u2 = true)) → p = some r → P) (g : u0 = false → u1 = false → u2 = false → q = some r → P) (h : (if (u0 || (u1 || u2)) = true then p else q) = some r) : P := by cases u0 <;> cases u1 <;> cases u2 <;> simp_all [Dum]
theorem z6f (s : St) : u7 s 2011 = match s.env.get 11 with | .ptr b o => (match s.heap.get b with | some (.box c) => (match c[o + 1]? with | some v => v | none => .undef) | _ => .undef) | _ => .undef := rfl
theorem zuf (n : Nat) : 0 + n = n := Nat.zero_add n
def en := PLift.up (And.intro (And.intro (And.intro (And.intro (And.intro qrl.down zqv.down) (And.intro @zuf @Int.cast_ofNat_Int)) (And.intro (And.intro @List.append_nil.{0} @List.nil_append.{0}) (And.intro @List.cons_append.{0} (And.intro @T.Span.qf @T.Row.qf)))) (And.intro (And.intro (And.intro @T.Rx.qf @T.Fmt.qf) (And.intro @T.Form.qf (And.intro @T.Stop.qf @T.qc.qf))) (And.intro (And.intro @T.Sel.qf @T.qb.qf) (And.intro @T.State.qf (And.intro @T.wz.qf @T.Op.qf))))) (And.intro (And.intro (And.intro (And.intro @T.ui.qf @T.q1l.qf) (And.intro @T.q1y.qf (And.intro @T.q29.qf @T.q1s.qf))) (And.intro (And.intro @T.q17.qf @T.z8.qf) (And.intro @T.q1h.qf (And.intro @T.q1j.qf @T.yx.qf)))) (And.intro (And.intro (And.intro @T.uf.qf @T.q27.qf) (And.intro @T.qz.qf (And.intro @T.Range.qf @T.q1k.qf))) (And.intro (And.intro @T.q28.qf @T.zf.qf) (And.intro @T.q1u.qf (And.intro @T.q08.qf @T.q1w.qf))))))
end Go.Proofs.YtcelddmcoklooaaGreatDoor
