/-
  Go's structs as Lean's.
-/
import Derived.Lib.ItoaNum
import Derived.Test.YtlapkkdodjhgpaaGreatDoorTad
set_option linter.unusedSimpArgs false
set_option linter.unusedVariables false
set_option maxRecDepth 100000
namespace Go.Proofs.YtlapkkdodjhgpaaGreatDoor
open Go Go.Gm
structure T.Span where
 frm : Int
 to : Int
 deriving Inhabited,DecidableEq
def T.Span.enc (x : T.Span) : List PV :=
 [PV.int IntKind.i64 x.frm,PV.int IntKind.i64 x.to]
theorem T.Span.qc (x : T.Span) : x.enc = [PV.int IntKind.i64 x.frm,PV.int IntKind.i64 x.to] := rfl
def T.Span.ok (x : T.Span) : Prop := inI x.frm ∧ inI x.to ∧ True
structure T.qj where
 span : T.Span
 text : Bytes
 deriving Inhabited,DecidableEq
def T.qj.enc (x : T.qj) : List PV :=
 [PV.int IntKind.i64 x.span.frm,PV.int IntKind.i64 x.span.to,PV.str x.text]
theorem T.qj.qc (x : T.qj) : x.enc = [PV.int IntKind.i64 x.span.frm,PV.int IntKind.i64 x.span.to,PV.str x.text] := rfl
def T.qj.ok (x : T.qj) : Prop := T.Span.ok x.span ∧ xz x.text ∧ True
structure T.Sel where
 anchor : Int
 head : Int
 deriving Inhabited,DecidableEq
def T.Sel.enc (x : T.Sel) : List PV :=
 [PV.int IntKind.i64 x.anchor,PV.int IntKind.i64 x.head]
theorem T.Sel.qc (x : T.Sel) : x.enc = [PV.int IntKind.i64 x.anchor,PV.int IntKind.i64 x.head] := rfl
def T.Sel.ok (x : T.Sel) : Prop := inI x.anchor ∧ inI x.head ∧ True
structure T.Op where
 kind : Int
 name : Bytes
 text : Bytes
 n : Int
 extend : Bool
 edits : (Sl T.qj)
 sels : (Sl T.Sel)
 deriving Inhabited,DecidableEq
def T.Op.enc (x : T.Op) : List PV :=
 [PV.int IntKind.i64 x.kind,PV.str x.name,PV.str x.text,PV.int IntKind.i64 x.n,PV.bool x.extend,PV.sl x.edits.nil (szc 3 x.edits.l) (List.map T.qj.enc x.edits.l),PV.sl x.sels.nil (szc 2 x.sels.l) (List.map T.Sel.enc x.sels.l)]
theorem T.Op.qc (x : T.Op) : x.enc = [PV.int IntKind.i64 x.kind,PV.str x.name,PV.str x.text,PV.int IntKind.i64 x.n,PV.bool x.extend,PV.sl x.edits.nil (szc 3 x.edits.l) (List.map T.qj.enc x.edits.l),PV.sl x.sels.nil (szc 2 x.sels.l) (List.map T.Sel.enc x.sels.l)] := rfl
def T.Op.ok (x : T.Op) : Prop := inI x.kind ∧ xz x.name ∧ xz x.text ∧ inI x.n ∧ xy x.extend ∧ (zn T.qj.ok) x.edits ∧ (zn T.Sel.ok) x.sels ∧ True
structure T.Row where
 frm : Bytes
 to : Bytes
 deriving Inhabited,DecidableEq
def T.Row.enc (x : T.Row) : List PV :=
 [PV.str x.frm,PV.str x.to]
theorem T.Row.qc (x : T.Row) : x.enc = [PV.str x.frm,PV.str x.to] := rfl
def T.Row.ok (x : T.Row) : Prop := xz x.frm ∧ xz x.to ∧ True
structure T.Rx where
 kind : Int
 char : Bytes
 not : Bool
 rows : (Sl T.Row)
 min : Int
 max : Int
 lazy : Bool
 kids : (Sl T.Rx)
 deriving Inhabited
mutual
def T.Rx.enc : T.Rx → List PV
 | ⟨x0,x1,x2,x3,x4,x5,x6,x7⟩ => [PV.int IntKind.i64 x0,PV.str x1,PV.bool x2,PV.sl x3.nil (szc 2 x3.l) (List.map T.Row.enc x3.l),PV.int IntKind.i64 x4,PV.int IntKind.i64 x5,PV.bool x6,T.Rx.encS x7]
def T.Rx.encS : Sl T.Rx → PV
 | ⟨b,l⟩ => .sl b (szc 8 l) (T.Rx.ji l)
def T.Rx.ji : List T.Rx → List (List PV)
 | [] => []
 | x :: r => x.enc :: T.Rx.ji r
end
theorem T.Rx.mo : ∀ l : List T.Rx,T.Rx.ji l = l.map T.Rx.enc
 | [] => rfl
 | x :: r => by simp [T.Rx.ji,T.Rx.mo r]
theorem T.Rx.q36 (s : Sl T.Rx) : T.Rx.encS s = .sl s.nil (szc 8 s.l) (s.l.map T.Rx.enc) := by cases s; simp [T.Rx.encS,T.Rx.mo]
theorem T.Rx.qc (x : T.Rx) : x.enc = [PV.int IntKind.i64 x.kind,PV.str x.char,PV.bool x.not,PV.sl x.rows.nil (szc 2 x.rows.l) (List.map T.Row.enc x.rows.l),PV.int IntKind.i64 x.min,PV.int IntKind.i64 x.max,PV.bool x.lazy,PV.sl x.kids.nil (szc 8 x.kids.l) (List.map T.Rx.enc x.kids.l)] := by cases x; simp [T.Rx.enc,T.Rx.q36]
mutual
def T.Rx.ok : T.Rx → Prop
 | ⟨x0,x1,x2,x3,x4,x5,x6,x7⟩ => inI x0 ∧ xz x1 ∧ xy x2 ∧ (zn T.Row.ok) x3 ∧ inI x4 ∧ inI x5 ∧ xy x6 ∧ T.Rx.okS x7 ∧ True
def T.Rx.okS : Sl T.Rx → Prop
 | ⟨b,l⟩ => (l.length ≤ maxLen ∧ (b = true → l = [])) ∧ T.Rx.okL l
def T.Rx.okL : List T.Rx → Prop
 | [] => True
 | x :: r => x.ok ∧ T.Rx.okL r
end
structure T.Fmt where
 kind : Int
 n : Int
 cas : Int
 thn : Bytes
 els : Bytes
 deriving Inhabited,DecidableEq
def T.Fmt.enc (x : T.Fmt) : List PV :=
 [PV.int IntKind.i64 x.kind,PV.int IntKind.i64 x.n,PV.int IntKind.i64 x.cas,PV.str x.thn,PV.str x.els]
theorem T.Fmt.qc (x : T.Fmt) : x.enc = [PV.int IntKind.i64 x.kind,PV.int IntKind.i64 x.n,PV.int IntKind.i64 x.cas,PV.str x.thn,PV.str x.els] := rfl
def T.Fmt.ok (x : T.Fmt) : Prop := inI x.kind ∧ inI x.n ∧ inI x.cas ∧ xz x.thn ∧ xz x.els ∧ True
structure T.Form where
 rx : T.Rx
 fmts : (Sl T.Fmt)
 fold : Bool
 all : Bool
 deriving Inhabited
def T.Form.enc (x : T.Form) : List PV :=
 [PV.int IntKind.i64 x.rx.kind,PV.str x.rx.char,PV.bool x.rx.not,PV.sl x.rx.rows.nil (szc 2 x.rx.rows.l) (List.map T.Row.enc x.rx.rows.l),PV.int IntKind.i64 x.rx.min,PV.int IntKind.i64 x.rx.max,PV.bool x.rx.lazy,PV.sl x.rx.kids.nil (szc 8 x.rx.kids.l) (List.map T.Rx.enc x.rx.kids.l),PV.sl x.fmts.nil (szc 5 x.fmts.l) (List.map T.Fmt.enc x.fmts.l),PV.bool x.fold,PV.bool x.all]
theorem T.Form.qc (x : T.Form) : x.enc = [PV.int IntKind.i64 x.rx.kind,PV.str x.rx.char,PV.bool x.rx.not,PV.sl x.rx.rows.nil (szc 2 x.rx.rows.l) (List.map T.Row.enc x.rx.rows.l),PV.int IntKind.i64 x.rx.min,PV.int IntKind.i64 x.rx.max,PV.bool x.rx.lazy,PV.sl x.rx.kids.nil (szc 8 x.rx.kids.l) (List.map T.Rx.enc x.rx.kids.l),PV.sl x.fmts.nil (szc 5 x.fmts.l) (List.map T.Fmt.enc x.fmts.l),PV.bool x.fold,PV.bool x.all] := rfl
def T.Form.ok (x : T.Form) : Prop := T.Rx.ok x.rx ∧ (zn T.Fmt.ok) x.fmts ∧ xy x.fold ∧ xy x.all ∧ True
structure T.Stop where
 span : T.Span
 n : Int
 up : Int
 first : Bool
 turned : Bool
 form : T.Form
 opts : (Sl Bytes)
 deriving Inhabited
def T.Stop.enc (x : T.Stop) : List PV :=
 [PV.int IntKind.i64 x.span.frm,PV.int IntKind.i64 x.span.to,PV.int IntKind.i64 x.n,PV.int IntKind.i64 x.up,PV.bool x.first,PV.bool x.turned,PV.int IntKind.i64 x.form.rx.kind,PV.str x.form.rx.char,PV.bool x.form.rx.not,PV.sl x.form.rx.rows.nil (szc 2 x.form.rx.rows.l) (List.map T.Row.enc x.form.rx.rows.l),PV.int IntKind.i64 x.form.rx.min,PV.int IntKind.i64 x.form.rx.max,PV.bool x.form.rx.lazy,PV.sl x.form.rx.kids.nil (szc 8 x.form.rx.kids.l) (List.map T.Rx.enc x.form.rx.kids.l),PV.sl x.form.fmts.nil (szc 5 x.form.fmts.l) (List.map T.Fmt.enc x.form.fmts.l),PV.bool x.form.fold,PV.bool x.form.all,PV.sl x.opts.nil (szc 1 x.opts.l) (List.map zl x.opts.l)]
theorem T.Stop.qc (x : T.Stop) : x.enc = [PV.int IntKind.i64 x.span.frm,PV.int IntKind.i64 x.span.to,PV.int IntKind.i64 x.n,PV.int IntKind.i64 x.up,PV.bool x.first,PV.bool x.turned,PV.int IntKind.i64 x.form.rx.kind,PV.str x.form.rx.char,PV.bool x.form.rx.not,PV.sl x.form.rx.rows.nil (szc 2 x.form.rx.rows.l) (List.map T.Row.enc x.form.rx.rows.l),PV.int IntKind.i64 x.form.rx.min,PV.int IntKind.i64 x.form.rx.max,PV.bool x.form.rx.lazy,PV.sl x.form.rx.kids.nil (szc 8 x.form.rx.kids.l) (List.map T.Rx.enc x.form.rx.kids.l),PV.sl x.form.fmts.nil (szc 5 x.form.fmts.l) (List.map T.Fmt.enc x.form.fmts.l),PV.bool x.form.fold,PV.bool x.form.all,PV.sl x.opts.nil (szc 1 x.opts.l) (List.map zl x.opts.l)] := rfl
def T.Stop.ok (x : T.Stop) : Prop := T.Span.ok x.span ∧ inI x.n ∧ inI x.up ∧ xy x.first ∧ xy x.turned ∧ T.Form.ok x.form ∧ (zn xz) x.opts ∧ True
structure T.y9 where
 span : T.Span
 stops : (Sl T.Stop)
 deriving Inhabited
def T.y9.enc (x : T.y9) : List PV :=
 [PV.int IntKind.i64 x.span.frm,PV.int IntKind.i64 x.span.to,PV.sl x.stops.nil (szc 18 x.stops.l) (List.map T.Stop.enc x.stops.l)]
theorem T.y9.qc (x : T.y9) : x.enc = [PV.int IntKind.i64 x.span.frm,PV.int IntKind.i64 x.span.to,PV.sl x.stops.nil (szc 18 x.stops.l) (List.map T.Stop.enc x.stops.l)] := rfl
def T.y9.ok (x : T.y9) : Prop := T.Span.ok x.span ∧ (zn T.Stop.ok) x.stops ∧ True
structure T.yc where
 cur : Int
 insts : (Sl T.y9)
 deriving Inhabited
def T.yc.enc (x : T.yc) : List PV :=
 [PV.int IntKind.i64 x.cur,PV.sl x.insts.nil (szc 3 x.insts.l) (List.map T.y9.enc x.insts.l)]
theorem T.yc.qc (x : T.yc) : x.enc = [PV.int IntKind.i64 x.cur,PV.sl x.insts.nil (szc 3 x.insts.l) (List.map T.y9.enc x.insts.l)] := rfl
def T.yc.ok (x : T.yc) : Prop := inI x.cur ∧ (zn T.y9.ok) x.insts ∧ True
structure T.State where
 text : Bytes
 sels : (Sl T.Sel)
 sessions : (Sl T.yc)
 deriving Inhabited
def T.State.enc (x : T.State) : List PV :=
 [PV.str x.text,PV.sl x.sels.nil (szc 2 x.sels.l) (List.map T.Sel.enc x.sels.l),PV.sl x.sessions.nil (szc 2 x.sessions.l) (List.map T.yc.enc x.sessions.l)]
theorem T.State.qc (x : T.State) : x.enc = [PV.str x.text,PV.sl x.sels.nil (szc 2 x.sels.l) (List.map T.Sel.enc x.sels.l),PV.sl x.sessions.nil (szc 2 x.sessions.l) (List.map T.yc.enc x.sessions.l)] := rfl
def T.State.ok (x : T.State) : Prop := xz x.text ∧ (zn T.Sel.ok) x.sels ∧ (zn T.yc.ok) x.sessions ∧ True
structure T.q0f where
 b : (Sl UInt8)
 at_ : Int
 deriving Inhabited,DecidableEq
def T.q0f.enc (x : T.q0f) : List PV :=
 [PV.sl x.b.nil (szc 1 x.b.l) (List.map z8 x.b.l),PV.int IntKind.i64 x.at_]
theorem T.q0f.qc (x : T.q0f) : x.enc = [PV.sl x.b.nil (szc 1 x.b.l) (List.map z8 x.b.l),PV.int IntKind.i64 x.at_] := rfl
def T.q0f.ok (x : T.q0f) : Prop := (zn xy) x.b ∧ inI x.at_ ∧ True
structure T.q27 where
 place : T.q0f
 ok_ : Bool
 deriving Inhabited,DecidableEq
def T.q27.enc (x : T.q27) : List PV :=
 [PV.sl x.place.b.nil (szc 1 x.place.b.l) (List.map z8 x.place.b.l),PV.int IntKind.i64 x.place.at_,PV.bool x.ok_]
theorem T.q27.qc (x : T.q27) : x.enc = [PV.sl x.place.b.nil (szc 1 x.place.b.l) (List.map z8 x.place.b.l),PV.int IntKind.i64 x.place.at_,PV.bool x.ok_] := rfl
def T.q27.ok (x : T.q27) : Prop := T.q0f.ok x.place ∧ xy x.ok_ ∧ True
structure T.q1s where
 name : Bytes
 value : Bytes
 deriving Inhabited,DecidableEq
def T.q1s.enc (x : T.q1s) : List PV :=
 [PV.str x.name,PV.str x.value]
theorem T.q1s.qc (x : T.q1s) : x.enc = [PV.str x.name,PV.str x.value] := rfl
def T.q1s.ok (x : T.q1s) : Prop := xz x.name ∧ xz x.value ∧ True
structure T.q1j where
 nums : (Sl Int)
 told : Int
 last : Int
 deriving Inhabited,DecidableEq
def T.q1j.enc (x : T.q1j) : List PV :=
 [PV.sl x.nums.nil (szc 1 x.nums.l) (List.map (kE IntKind.u32) x.nums.l),PV.int IntKind.i64 x.told,PV.int IntKind.u32 x.last]
theorem T.q1j.qc (x : T.q1j) : x.enc = [PV.sl x.nums.nil (szc 1 x.nums.l) (List.map (kE IntKind.u32) x.nums.l),PV.int IntKind.i64 x.told,PV.int IntKind.u32 x.last] := rfl
def T.q1j.ok (x : T.q1j) : Prop := (zn inU) x.nums ∧ inI x.told ∧ inU x.last ∧ True
structure T.q1r where
 most : Int
 behind : (Sl T.State)
 ahead : (Sl T.State)
 deriving Inhabited
def T.q1r.enc (x : T.q1r) : List PV :=
 [PV.int IntKind.i64 x.most,PV.sl x.behind.nil (szc 3 x.behind.l) (List.map T.State.enc x.behind.l),PV.sl x.ahead.nil (szc 3 x.ahead.l) (List.map T.State.enc x.ahead.l)]
theorem T.q1r.qc (x : T.q1r) : x.enc = [PV.int IntKind.i64 x.most,PV.sl x.behind.nil (szc 3 x.behind.l) (List.map T.State.enc x.behind.l),PV.sl x.ahead.nil (szc 3 x.ahead.l) (List.map T.State.enc x.ahead.l)] := rfl
def T.q1r.ok (x : T.q1r) : Prop := inI x.most ∧ (zn T.State.ok) x.behind ∧ (zn T.State.ok) x.ahead ∧ True
structure T.q2i where
 s : Bytes
 at_ : Int
 deriving Inhabited,DecidableEq
def T.q2i.enc (x : T.q2i) : List PV :=
 [PV.str x.s,PV.int IntKind.i64 x.at_]
theorem T.q2i.qc (x : T.q2i) : x.enc = [PV.str x.s,PV.int IntKind.i64 x.at_] := rfl
def T.q2i.ok (x : T.q2i) : Prop := xz x.s ∧ inI x.at_ ∧ True
structure T.q1o where
 bytes : Int
 breaks : Int
 runes : Int
 units : Int
 deriving Inhabited,DecidableEq
def T.q1o.enc (x : T.q1o) : List PV :=
 [PV.int IntKind.i64 x.bytes,PV.int IntKind.i64 x.breaks,PV.int IntKind.i64 x.runes,PV.int IntKind.i64 x.units]
theorem T.q1o.qc (x : T.q1o) : x.enc = [PV.int IntKind.i64 x.bytes,PV.int IntKind.i64 x.breaks,PV.int IntKind.i64 x.runes,PV.int IntKind.i64 x.units] := rfl
def T.q1o.ok (x : T.q1o) : Prop := inI x.bytes ∧ inI x.breaks ∧ inI x.runes ∧ inI x.units ∧ True
structure T.um where
 id : Int
 held : Bool
 deriving Inhabited,DecidableEq
def T.um.enc (x : T.um) : List PV :=
 [PV.int IntKind.i64 x.id,PV.bool x.held]
theorem T.um.qc (x : T.um) : x.enc = [PV.int IntKind.i64 x.id,PV.bool x.held] := rfl
def T.um.ok (x : T.um) : Prop := inI x.id ∧ xy x.held ∧ True
structure T.uw where
 session : T.yc
 marks : (Sl (Sl T.um))
 deriving Inhabited
def T.uw.enc (x : T.uw) : List PV :=
 [PV.int IntKind.i64 x.session.cur,PV.sl x.session.insts.nil (szc 3 x.session.insts.l) (List.map T.y9.enc x.session.insts.l),PV.sl x.marks.nil (szc 1 x.marks.l) (List.map (slE 2 T.um.enc) x.marks.l)]
theorem T.uw.qc (x : T.uw) : x.enc = [PV.int IntKind.i64 x.session.cur,PV.sl x.session.insts.nil (szc 3 x.session.insts.l) (List.map T.y9.enc x.session.insts.l),PV.sl x.marks.nil (szc 1 x.marks.l) (List.map (slE 2 T.um.enc) x.marks.l)] := rfl
def T.uw.ok (x : T.uw) : Prop := T.yc.ok x.session ∧ (zn (zn T.um.ok)) x.marks ∧ True
structure T.q2m where
 text : Bytes
 sels : (Sl T.Sel)
 sessions : (Sl T.uw)
 deriving Inhabited
def T.q2m.enc (x : T.q2m) : List PV :=
 [PV.str x.text,PV.sl x.sels.nil (szc 2 x.sels.l) (List.map T.Sel.enc x.sels.l),PV.sl x.sessions.nil (szc 3 x.sessions.l) (List.map T.uw.enc x.sessions.l)]
theorem T.q2m.qc (x : T.q2m) : x.enc = [PV.str x.text,PV.sl x.sels.nil (szc 2 x.sels.l) (List.map T.Sel.enc x.sels.l),PV.sl x.sessions.nil (szc 3 x.sessions.l) (List.map T.uw.enc x.sessions.l)] := rfl
def T.q2m.ok (x : T.q2m) : Prop := xz x.text ∧ (zn T.Sel.ok) x.sels ∧ (zn T.uw.ok) x.sessions ∧ True
structure T.qy where
 kind : Int
 text : Bytes
 n : Int
 has : Bool
 turned : Bool
 form : T.Form
 opts : (Sl Bytes)
 kids : (Sl T.qy)
 deriving Inhabited
mutual
def T.qy.enc : T.qy → List PV
 | ⟨x0,x1,x2,x3,x4,x5,x6,x7⟩ => [PV.int IntKind.i64 x0,PV.str x1,PV.int IntKind.i64 x2,PV.bool x3,PV.bool x4,PV.int IntKind.i64 x5.rx.kind,PV.str x5.rx.char,PV.bool x5.rx.not,PV.sl x5.rx.rows.nil (szc 2 x5.rx.rows.l) (List.map T.Row.enc x5.rx.rows.l),PV.int IntKind.i64 x5.rx.min,PV.int IntKind.i64 x5.rx.max,PV.bool x5.rx.lazy,PV.sl x5.rx.kids.nil (szc 8 x5.rx.kids.l) (List.map T.Rx.enc x5.rx.kids.l),PV.sl x5.fmts.nil (szc 5 x5.fmts.l) (List.map T.Fmt.enc x5.fmts.l),PV.bool x5.fold,PV.bool x5.all,PV.sl x6.nil (szc 1 x6.l) (List.map zl x6.l),T.qy.encS x7]
def T.qy.encS : Sl T.qy → PV
 | ⟨b,l⟩ => .sl b (szc 18 l) (T.qy.ji l)
def T.qy.ji : List T.qy → List (List PV)
 | [] => []
 | x :: r => x.enc :: T.qy.ji r
end
theorem T.qy.mo : ∀ l : List T.qy,T.qy.ji l = l.map T.qy.enc
 | [] => rfl
 | x :: r => by simp [T.qy.ji,T.qy.mo r]
theorem T.qy.q36 (s : Sl T.qy) : T.qy.encS s = .sl s.nil (szc 18 s.l) (s.l.map T.qy.enc) := by cases s; simp [T.qy.encS,T.qy.mo]
theorem T.qy.qc (x : T.qy) : x.enc = [PV.int IntKind.i64 x.kind,PV.str x.text,PV.int IntKind.i64 x.n,PV.bool x.has,PV.bool x.turned,PV.int IntKind.i64 x.form.rx.kind,PV.str x.form.rx.char,PV.bool x.form.rx.not,PV.sl x.form.rx.rows.nil (szc 2 x.form.rx.rows.l) (List.map T.Row.enc x.form.rx.rows.l),PV.int IntKind.i64 x.form.rx.min,PV.int IntKind.i64 x.form.rx.max,PV.bool x.form.rx.lazy,PV.sl x.form.rx.kids.nil (szc 8 x.form.rx.kids.l) (List.map T.Rx.enc x.form.rx.kids.l),PV.sl x.form.fmts.nil (szc 5 x.form.fmts.l) (List.map T.Fmt.enc x.form.fmts.l),PV.bool x.form.fold,PV.bool x.form.all,PV.sl x.opts.nil (szc 1 x.opts.l) (List.map zl x.opts.l),PV.sl x.kids.nil (szc 18 x.kids.l) (List.map T.qy.enc x.kids.l)] := by cases x; simp [T.qy.enc,T.qy.q36]
mutual
def T.qy.ok : T.qy → Prop
 | ⟨x0,x1,x2,x3,x4,x5,x6,x7⟩ => inI x0 ∧ xz x1 ∧ inI x2 ∧ xy x3 ∧ xy x4 ∧ T.Form.ok x5 ∧ (zn xz) x6 ∧ T.qy.okS x7 ∧ True
def T.qy.okS : Sl T.qy → Prop
 | ⟨b,l⟩ => (l.length ≤ maxLen ∧ (b = true → l = [])) ∧ T.qy.okL l
def T.qy.okL : List T.qy → Prop
 | [] => True
 | x :: r => x.ok ∧ T.qy.okL r
end
structure T.Range where
 span : T.Span
 fromRight : Bool
 toRight : Bool
 parent : Int
 deriving Inhabited,DecidableEq
def T.Range.enc (x : T.Range) : List PV :=
 [PV.int IntKind.i64 x.span.frm,PV.int IntKind.i64 x.span.to,PV.bool x.fromRight,PV.bool x.toRight,PV.int IntKind.i64 x.parent]
theorem T.Range.qc (x : T.Range) : x.enc = [PV.int IntKind.i64 x.span.frm,PV.int IntKind.i64 x.span.to,PV.bool x.fromRight,PV.bool x.toRight,PV.int IntKind.i64 x.parent] := rfl
def T.Range.ok (x : T.Range) : Prop := T.Span.ok x.span ∧ xy x.fromRight ∧ xy x.toRight ∧ inI x.parent ∧ True
structure T.q1w where
 part : T.qy
 end_ : Int
 ok_ : Bool
 deriving Inhabited
def T.q1w.enc (x : T.q1w) : List PV :=
 [PV.int IntKind.i64 x.part.kind,PV.str x.part.text,PV.int IntKind.i64 x.part.n,PV.bool x.part.has,PV.bool x.part.turned,PV.int IntKind.i64 x.part.form.rx.kind,PV.str x.part.form.rx.char,PV.bool x.part.form.rx.not,PV.sl x.part.form.rx.rows.nil (szc 2 x.part.form.rx.rows.l) (List.map T.Row.enc x.part.form.rx.rows.l),PV.int IntKind.i64 x.part.form.rx.min,PV.int IntKind.i64 x.part.form.rx.max,PV.bool x.part.form.rx.lazy,PV.sl x.part.form.rx.kids.nil (szc 8 x.part.form.rx.kids.l) (List.map T.Rx.enc x.part.form.rx.kids.l),PV.sl x.part.form.fmts.nil (szc 5 x.part.form.fmts.l) (List.map T.Fmt.enc x.part.form.fmts.l),PV.bool x.part.form.fold,PV.bool x.part.form.all,PV.sl x.part.opts.nil (szc 1 x.part.opts.l) (List.map zl x.part.opts.l),PV.sl x.part.kids.nil (szc 18 x.part.kids.l) (List.map T.qy.enc x.part.kids.l),PV.int IntKind.i64 x.end_,PV.bool x.ok_]
theorem T.q1w.qc (x : T.q1w) : x.enc = [PV.int IntKind.i64 x.part.kind,PV.str x.part.text,PV.int IntKind.i64 x.part.n,PV.bool x.part.has,PV.bool x.part.turned,PV.int IntKind.i64 x.part.form.rx.kind,PV.str x.part.form.rx.char,PV.bool x.part.form.rx.not,PV.sl x.part.form.rx.rows.nil (szc 2 x.part.form.rx.rows.l) (List.map T.Row.enc x.part.form.rx.rows.l),PV.int IntKind.i64 x.part.form.rx.min,PV.int IntKind.i64 x.part.form.rx.max,PV.bool x.part.form.rx.lazy,PV.sl x.part.form.rx.kids.nil (szc 8 x.part.form.rx.kids.l) (List.map T.Rx.enc x.part.form.rx.kids.l),PV.sl x.part.form.fmts.nil (szc 5 x.part.form.fmts.l) (List.map T.Fmt.enc x.part.form.fmts.l),PV.bool x.part.form.fold,PV.bool x.part.form.all,PV.sl x.part.opts.nil (szc 1 x.part.opts.l) (List.map zl x.part.opts.l),PV.sl x.part.kids.nil (szc 18 x.part.kids.l) (List.map T.qy.enc x.part.kids.l),PV.int IntKind.i64 x.end_,PV.bool x.ok_] := rfl
def T.q1w.ok (x : T.q1w) : Prop := T.qy.ok x.part ∧ inI x.end_ ∧ xy x.ok_ ∧ True
structure T.q2c where
 e : T.qj
 does : (Sl (Sl Int))
 inst : Int
 place : Int
 deriving Inhabited,DecidableEq
def T.q2c.enc (x : T.q2c) : List PV :=
 [PV.int IntKind.i64 x.e.span.frm,PV.int IntKind.i64 x.e.span.to,PV.str x.e.text,PV.sl x.does.nil (szc 1 x.does.l) (List.map (slE 1 kz) x.does.l),PV.int IntKind.i64 x.inst,PV.int IntKind.i64 x.place]
theorem T.q2c.qc (x : T.q2c) : x.enc = [PV.int IntKind.i64 x.e.span.frm,PV.int IntKind.i64 x.e.span.to,PV.str x.e.text,PV.sl x.does.nil (szc 1 x.does.l) (List.map (slE 1 kz) x.does.l),PV.int IntKind.i64 x.inst,PV.int IntKind.i64 x.place] := rfl
def T.q2c.ok (x : T.q2c) : Prop := T.qj.ok x.e ∧ (zn (zn inI)) x.does ∧ inI x.inst ∧ inI x.place ∧ True
structure T.q1n where
 span : T.Span
 parts : (Sl T.Span)
 deriving Inhabited,DecidableEq
def T.q1n.enc (x : T.q1n) : List PV :=
 [PV.int IntKind.i64 x.span.frm,PV.int IntKind.i64 x.span.to,PV.sl x.parts.nil (szc 2 x.parts.l) (List.map T.Span.enc x.parts.l)]
theorem T.q1n.qc (x : T.q1n) : x.enc = [PV.int IntKind.i64 x.span.frm,PV.int IntKind.i64 x.span.to,PV.sl x.parts.nil (szc 2 x.parts.l) (List.map T.Span.enc x.parts.l)] := rfl
def T.q1n.ok (x : T.q1n) : Prop := T.Span.ok x.span ∧ (zn T.Span.ok) x.parts ∧ True
structure T.ze where
 text : Bytes
 adapt : Bool
 stop : Bool
 turned : Bool
 form : T.Form
 n : Int
 first : Bool
 opts : (Sl Bytes)
 kids : (Sl T.ze)
 size : Int
 deriving Inhabited
mutual
def T.ze.enc : T.ze → List PV
 | ⟨x0,x1,x2,x3,x4,x5,x6,x7,x8,x9⟩ => [PV.str x0,PV.bool x1,PV.bool x2,PV.bool x3,PV.int IntKind.i64 x4.rx.kind,PV.str x4.rx.char,PV.bool x4.rx.not,PV.sl x4.rx.rows.nil (szc 2 x4.rx.rows.l) (List.map T.Row.enc x4.rx.rows.l),PV.int IntKind.i64 x4.rx.min,PV.int IntKind.i64 x4.rx.max,PV.bool x4.rx.lazy,PV.sl x4.rx.kids.nil (szc 8 x4.rx.kids.l) (List.map T.Rx.enc x4.rx.kids.l),PV.sl x4.fmts.nil (szc 5 x4.fmts.l) (List.map T.Fmt.enc x4.fmts.l),PV.bool x4.fold,PV.bool x4.all,PV.int IntKind.i64 x5,PV.bool x6,PV.sl x7.nil (szc 1 x7.l) (List.map zl x7.l),T.ze.encS x8,PV.int IntKind.i64 x9]
def T.ze.encS : Sl T.ze → PV
 | ⟨b,l⟩ => .sl b (szc 20 l) (T.ze.ji l)
def T.ze.ji : List T.ze → List (List PV)
 | [] => []
 | x :: r => x.enc :: T.ze.ji r
end
theorem T.ze.mo : ∀ l : List T.ze,T.ze.ji l = l.map T.ze.enc
 | [] => rfl
 | x :: r => by simp [T.ze.ji,T.ze.mo r]
theorem T.ze.q36 (s : Sl T.ze) : T.ze.encS s = .sl s.nil (szc 20 s.l) (s.l.map T.ze.enc) := by cases s; simp [T.ze.encS,T.ze.mo]
theorem T.ze.qc (x : T.ze) : x.enc = [PV.str x.text,PV.bool x.adapt,PV.bool x.stop,PV.bool x.turned,PV.int IntKind.i64 x.form.rx.kind,PV.str x.form.rx.char,PV.bool x.form.rx.not,PV.sl x.form.rx.rows.nil (szc 2 x.form.rx.rows.l) (List.map T.Row.enc x.form.rx.rows.l),PV.int IntKind.i64 x.form.rx.min,PV.int IntKind.i64 x.form.rx.max,PV.bool x.form.rx.lazy,PV.sl x.form.rx.kids.nil (szc 8 x.form.rx.kids.l) (List.map T.Rx.enc x.form.rx.kids.l),PV.sl x.form.fmts.nil (szc 5 x.form.fmts.l) (List.map T.Fmt.enc x.form.fmts.l),PV.bool x.form.fold,PV.bool x.form.all,PV.int IntKind.i64 x.n,PV.bool x.first,PV.sl x.opts.nil (szc 1 x.opts.l) (List.map zl x.opts.l),PV.sl x.kids.nil (szc 20 x.kids.l) (List.map T.ze.enc x.kids.l),PV.int IntKind.i64 x.size] := by cases x; simp [T.ze.enc,T.ze.q36]
mutual
def T.ze.ok : T.ze → Prop
 | ⟨x0,x1,x2,x3,x4,x5,x6,x7,x8,x9⟩ => xz x0 ∧ xy x1 ∧ xy x2 ∧ xy x3 ∧ T.Form.ok x4 ∧ inI x5 ∧ xy x6 ∧ (zn xz) x7 ∧ T.ze.okS x8 ∧ inI x9 ∧ True
def T.ze.okS : Sl T.ze → Prop
 | ⟨b,l⟩ => (l.length ≤ maxLen ∧ (b = true → l = [])) ∧ T.ze.okL l
def T.ze.okL : List T.ze → Prop
 | [] => True
 | x :: r => x.ok ∧ T.ze.okL r
end
structure T.qz where
 rx : T.Rx
 kids : (Sl T.qz)
 lo : Int
 hi : Int
 deriving Inhabited
mutual
def T.qz.enc : T.qz → List PV
 | ⟨x0,x1,x2,x3⟩ => [PV.int IntKind.i64 x0.kind,PV.str x0.char,PV.bool x0.not,PV.sl x0.rows.nil (szc 2 x0.rows.l) (List.map T.Row.enc x0.rows.l),PV.int IntKind.i64 x0.min,PV.int IntKind.i64 x0.max,PV.bool x0.lazy,PV.sl x0.kids.nil (szc 8 x0.kids.l) (List.map T.Rx.enc x0.kids.l),T.qz.encS x1,PV.int IntKind.i64 x2,PV.int IntKind.i64 x3]
def T.qz.encS : Sl T.qz → PV
 | ⟨b,l⟩ => .sl b (szc 11 l) (T.qz.ji l)
def T.qz.ji : List T.qz → List (List PV)
 | [] => []
 | x :: r => x.enc :: T.qz.ji r
end
theorem T.qz.mo : ∀ l : List T.qz,T.qz.ji l = l.map T.qz.enc
 | [] => rfl
 | x :: r => by simp [T.qz.ji,T.qz.mo r]
theorem T.qz.q36 (s : Sl T.qz) : T.qz.encS s = .sl s.nil (szc 11 s.l) (s.l.map T.qz.enc) := by cases s; simp [T.qz.encS,T.qz.mo]
theorem T.qz.qc (x : T.qz) : x.enc = [PV.int IntKind.i64 x.rx.kind,PV.str x.rx.char,PV.bool x.rx.not,PV.sl x.rx.rows.nil (szc 2 x.rx.rows.l) (List.map T.Row.enc x.rx.rows.l),PV.int IntKind.i64 x.rx.min,PV.int IntKind.i64 x.rx.max,PV.bool x.rx.lazy,PV.sl x.rx.kids.nil (szc 8 x.rx.kids.l) (List.map T.Rx.enc x.rx.kids.l),PV.sl x.kids.nil (szc 11 x.kids.l) (List.map T.qz.enc x.kids.l),PV.int IntKind.i64 x.lo,PV.int IntKind.i64 x.hi] := by cases x; simp [T.qz.enc,T.qz.q36]
mutual
def T.qz.ok : T.qz → Prop
 | ⟨x0,x1,x2,x3⟩ => T.Rx.ok x0 ∧ T.qz.okS x1 ∧ inI x2 ∧ inI x3 ∧ True
def T.qz.okS : Sl T.qz → Prop
 | ⟨b,l⟩ => (l.length ≤ maxLen ∧ (b = true → l = [])) ∧ T.qz.okL l
def T.qz.okL : List T.qz → Prop
 | [] => True
 | x :: r => x.ok ∧ T.qz.okL r
end
structure T.q2b where
 top : T.qz
 fold : Bool
 chars : (Sl Bytes)
 places : (Sl Int)
 parts : (Sl T.Span)
 fuel : Int
 out : Bool
 deriving Inhabited
def T.q2b.enc (x : T.q2b) : List PV :=
 [PV.int IntKind.i64 x.top.rx.kind,PV.str x.top.rx.char,PV.bool x.top.rx.not,PV.sl x.top.rx.rows.nil (szc 2 x.top.rx.rows.l) (List.map T.Row.enc x.top.rx.rows.l),PV.int IntKind.i64 x.top.rx.min,PV.int IntKind.i64 x.top.rx.max,PV.bool x.top.rx.lazy,PV.sl x.top.rx.kids.nil (szc 8 x.top.rx.kids.l) (List.map T.Rx.enc x.top.rx.kids.l),PV.sl x.top.kids.nil (szc 11 x.top.kids.l) (List.map T.qz.enc x.top.kids.l),PV.int IntKind.i64 x.top.lo,PV.int IntKind.i64 x.top.hi,PV.bool x.fold,PV.sl x.chars.nil (szc 1 x.chars.l) (List.map zl x.chars.l),PV.sl x.places.nil (szc 1 x.places.l) (List.map kz x.places.l),PV.sl x.parts.nil (szc 2 x.parts.l) (List.map T.Span.enc x.parts.l),PV.int IntKind.i64 x.fuel,PV.bool x.out]
theorem T.q2b.qc (x : T.q2b) : x.enc = [PV.int IntKind.i64 x.top.rx.kind,PV.str x.top.rx.char,PV.bool x.top.rx.not,PV.sl x.top.rx.rows.nil (szc 2 x.top.rx.rows.l) (List.map T.Row.enc x.top.rx.rows.l),PV.int IntKind.i64 x.top.rx.min,PV.int IntKind.i64 x.top.rx.max,PV.bool x.top.rx.lazy,PV.sl x.top.rx.kids.nil (szc 8 x.top.rx.kids.l) (List.map T.Rx.enc x.top.rx.kids.l),PV.sl x.top.kids.nil (szc 11 x.top.kids.l) (List.map T.qz.enc x.top.kids.l),PV.int IntKind.i64 x.top.lo,PV.int IntKind.i64 x.top.hi,PV.bool x.fold,PV.sl x.chars.nil (szc 1 x.chars.l) (List.map zl x.chars.l),PV.sl x.places.nil (szc 1 x.places.l) (List.map kz x.places.l),PV.sl x.parts.nil (szc 2 x.parts.l) (List.map T.Span.enc x.parts.l),PV.int IntKind.i64 x.fuel,PV.bool x.out] := rfl
def T.q2b.ok (x : T.q2b) : Prop := T.qz.ok x.top ∧ xy x.fold ∧ (zn xz) x.chars ∧ (zn inI) x.places ∧ (zn T.Span.ok) x.parts ∧ inI x.fuel ∧ xy x.out ∧ True
structure T.q21 where
 text : Bytes
 deriving Inhabited,DecidableEq
def T.q21.enc (x : T.q21) : List PV :=
 [PV.str x.text]
theorem T.q21.qc (x : T.q21) : x.enc = [PV.str x.text] := rfl
def T.q21.ok (x : T.q21) : Prop := xz x.text ∧ True
structure T.q02 where
 all : (Sl Bytes)
 at_ : Int
 deriving Inhabited,DecidableEq
def T.q02.enc (x : T.q02) : List PV :=
 [PV.sl x.all.nil (szc 1 x.all.l) (List.map zl x.all.l),PV.int IntKind.i64 x.at_]
theorem T.q02.qc (x : T.q02) : x.enc = [PV.sl x.all.nil (szc 1 x.all.l) (List.map zl x.all.l),PV.int IntKind.i64 x.at_] := rfl
def T.q02.ok (x : T.q02) : Prop := (zn xz) x.all ∧ inI x.at_ ∧ True
structure T.q29 where
 place : T.q02
 deep : Int
 deriving Inhabited,DecidableEq
def T.q29.enc (x : T.q29) : List PV :=
 [PV.sl x.place.all.nil (szc 1 x.place.all.l) (List.map zl x.place.all.l),PV.int IntKind.i64 x.place.at_,PV.int IntKind.i64 x.deep]
theorem T.q29.qc (x : T.q29) : x.enc = [PV.sl x.place.all.nil (szc 1 x.place.all.l) (List.map zl x.place.all.l),PV.int IntKind.i64 x.place.at_,PV.int IntKind.i64 x.deep] := rfl
def T.q29.ok (x : T.q29) : Prop := T.q02.ok x.place ∧ inI x.deep ∧ True
def q64 (n : Int) : Option Bytes := if -9223372036854775808 ≤ n ∧ n ≤ 9223372036854775807 then some (Go.Lib.itoa n) else none
def aw5 : Option Bool := some true
theorem yn {α : Type} {u0 u1 : Bool} {p q : Option α} {r : α} {P : Prop} (f : u0 = true → u1 = true → p = some r → P) (g : ((u0 = false ∧ Dum) ∨ (u0 = true ∧ u1 = false)) → q = some r → P) (h : (if (u0 && u1) = true then p else q) = some r) : P := by cases u0 <;> cases u1 <;> simp_all [Dum]
theorem qco {α : Type} {u0 u1 u2 : Bool} {p q : Option α} {r : α} {P : Prop} (f : u0 = true → u1 = true → u2 = true → p = some r → P) (g : ((u0 = false ∧ Dum ∧ Dum) ∨ (u0 = true ∧ u1 = false ∧ Dum) ∨ (u0 = true ∧ u1 = true ∧ u2 = false)) → q = some r → P) (h : (if (u0 && (u1 && u2)) = true then p else q) = some r) : P := by cases u0 <;> cases u1 <;> cases u2 <;> simp_all [Dum]
theorem q8x {α : Type} {u0 u1 u2 u3 : Bool} {p q : Option α} {r : α} {P : Prop} (f : u0 = true → u1 = true → u2 = true → u3 = true → p = some r → P) (g : ((u0 = false ∧ Dum ∧ Dum ∧ Dum) ∨ (u0 = true ∧ u1 = false ∧ Dum ∧ Dum) ∨ (u0 = true ∧ u1 = true ∧ u2 = false ∧ Dum) ∨ (u0 = true ∧ u1 = true ∧ u2 = true ∧ u3 = false)) → q = some r → P) (h : (if (u0 && (u1 && (u2 && u3))) = true then p else q) = some r) : P := by cases u0 <;> cases u1 <;> cases u2 <;> cases u3 <;> simp_all [Dum]
theorem q77 {α : Type} {u0 u1 u2 u3 u4 : Bool} {p q : Option α} {r : α} {P : Prop} (f : u0 = true → u1 = true → u2 = true → u3 = true → u4 = true → p = some r → P) (g : ((u0 = false ∧ Dum ∧ Dum ∧ Dum ∧ Dum) ∨ (u0 = true ∧ u1 = false ∧ Dum ∧ Dum ∧ Dum) ∨ (u0 = true ∧ u1 = true ∧ u2 = false ∧ Dum ∧ Dum) ∨ (u0 = true ∧ u1 = true ∧ u2 = true ∧ u3 = false ∧ Dum) ∨ (u0 = true ∧ u1 = true ∧ u2 = true ∧ u3 = true ∧ u4 = false)) → q = some r → P) (h : (if (u0 && (u1 && (u2 && (u3 && u4)))) = true then p else q) = some r) : P := by cases u0 <;> cases u1 <;> cases u2 <;> cases u3 <;> cases u4 <;> simp_all [Dum]
theorem q6g {α : Type} {u0 u1 : Bool} {p q : Option α} {r : α} {P : Prop} (f : ((u0 = true ∧ Dum) ∨ (u0 = false ∧ u1 = true)) → p = some r → P) (g : u0 = false → u1 = false → q = some r → P) (h : (if (u0 || u1) = true then p else q) = some r) : P := by cases u0 <;> cases u1 <;> simp_all [Dum]
theorem qiq (n : Nat) : 0 + n = n := Nat.zero_add n
def en := PLift.up (And.intro (And.intro (And.intro (And.intro (And.intro zsb.down zbl.down) (And.intro @qiq (And.intro @Int.cast_ofNat_Int @List.append_nil.{0}))) (And.intro (And.intro @List.nil_append.{0} @List.cons_append.{0}) (And.intro @T.Span.qc (And.intro @T.qj.qc @T.Sel.qc)))) (And.intro (And.intro (And.intro @T.Op.qc @T.Row.qc) (And.intro @T.Rx.qc (And.intro @T.Fmt.qc @T.Form.qc))) (And.intro (And.intro @T.Stop.qc @T.y9.qc) (And.intro @T.yc.qc (And.intro @T.State.qc @T.q0f.qc))))) (And.intro (And.intro (And.intro (And.intro @T.q27.qc @T.q1s.qc) (And.intro @T.q1j.qc (And.intro @T.q1r.qc @T.q2i.qc))) (And.intro (And.intro @T.q1o.qc @T.um.qc) (And.intro @T.uw.qc (And.intro @T.q2m.qc @T.qy.qc)))) (And.intro (And.intro (And.intro @T.Range.qc @T.q1w.qc) (And.intro @T.q2c.qc (And.intro @T.q1n.qc @T.ze.qc))) (And.intro (And.intro @T.qz.qc @T.q2b.qc) (And.intro @T.q21.qc (And.intro @T.q02.qc @T.q29.qc))))))
end Go.Proofs.YtlapkkdodjhgpaaGreatDoor
