/-
  Go's structs as Lean's.
-/
import Derived.Test.YtljbbncgpbgboaaGreatDoorCad
set_option linter.unusedSimpArgs false
set_option linter.unusedVariables false
set_option maxRecDepth 100000
namespace Go.Proofs.YtljbbncgpbgboaaGreatDoor
open Go Go.Gm
structure T.Span where
 frm : Int
 to : Int
 deriving Inhabited,DecidableEq
def T.Span.enc (x : T.Span) : List PV :=
 [PV.int IntKind.i64 x.frm,PV.int IntKind.i64 x.to]
theorem T.Span.qb (x : T.Span) : x.enc = [PV.int IntKind.i64 x.frm,PV.int IntKind.i64 x.to] := rfl
def T.Span.ok (x : T.Span) : Prop := inI x.frm ∧ inI x.to ∧ True
structure T.jv where
 span : T.Span
 text : Bytes
 deriving Inhabited,DecidableEq
def T.jv.enc (x : T.jv) : List PV :=
 [PV.int IntKind.i64 x.span.frm,PV.int IntKind.i64 x.span.to,PV.str x.text]
theorem T.jv.qb (x : T.jv) : x.enc = [PV.int IntKind.i64 x.span.frm,PV.int IntKind.i64 x.span.to,PV.str x.text] := rfl
def T.jv.ok (x : T.jv) : Prop := T.Span.ok x.span ∧ zy x.text ∧ True
structure T.Sel where
 anchor : Int
 head : Int
 deriving Inhabited,DecidableEq
def T.Sel.enc (x : T.Sel) : List PV :=
 [PV.int IntKind.i64 x.anchor,PV.int IntKind.i64 x.head]
theorem T.Sel.qb (x : T.Sel) : x.enc = [PV.int IntKind.i64 x.anchor,PV.int IntKind.i64 x.head] := rfl
def T.Sel.ok (x : T.Sel) : Prop := inI x.anchor ∧ inI x.head ∧ True
structure T.Op where
 kind : Int
 name : Bytes
 text : Bytes
 n : Int
 extend : Bool
 edits : (Sl T.jv)
 sels : (Sl T.Sel)
 deriving Inhabited,DecidableEq
def T.Op.enc (x : T.Op) : List PV :=
 [PV.int IntKind.i64 x.kind,PV.str x.name,PV.str x.text,PV.int IntKind.i64 x.n,PV.bool x.extend,PV.sl x.edits.nil (szc 3 x.edits.l) (List.map T.jv.enc x.edits.l),PV.sl x.sels.nil (szc 2 x.sels.l) (List.map T.Sel.enc x.sels.l)]
theorem T.Op.qb (x : T.Op) : x.enc = [PV.int IntKind.i64 x.kind,PV.str x.name,PV.str x.text,PV.int IntKind.i64 x.n,PV.bool x.extend,PV.sl x.edits.nil (szc 3 x.edits.l) (List.map T.jv.enc x.edits.l),PV.sl x.sels.nil (szc 2 x.sels.l) (List.map T.Sel.enc x.sels.l)] := rfl
def T.Op.ok (x : T.Op) : Prop := inI x.kind ∧ zy x.name ∧ zy x.text ∧ inI x.n ∧ zn x.extend ∧ (zi T.jv.ok) x.edits ∧ (zi T.Sel.ok) x.sels ∧ True
structure T.Row where
 frm : Bytes
 to : Bytes
 deriving Inhabited,DecidableEq
def T.Row.enc (x : T.Row) : List PV :=
 [PV.str x.frm,PV.str x.to]
theorem T.Row.qb (x : T.Row) : x.enc = [PV.str x.frm,PV.str x.to] := rfl
def T.Row.ok (x : T.Row) : Prop := zy x.frm ∧ zy x.to ∧ True
structure T.Rx where
 kind : Int
 char : Bytes
 not : Bool
 rows : (Sl T.Row)
 min : Int
 max : Int
 lazy : Bool
 kids : (Sl T.Rx)
 deriving Inhabited
mutual
def T.Rx.enc : T.Rx → List PV
 | ⟨x0,x1,x2,x3,x4,x5,x6,x7⟩ => [PV.int IntKind.i64 x0,PV.str x1,PV.bool x2,PV.sl x3.nil (szc 2 x3.l) (List.map T.Row.enc x3.l),PV.int IntKind.i64 x4,PV.int IntKind.i64 x5,PV.bool x6,T.Rx.encS x7]
def T.Rx.encS : Sl T.Rx → PV
 | ⟨b,l⟩ => .sl b (szc 8 l) (T.Rx.xq l)
def T.Rx.xq : List T.Rx → List (List PV)
 | [] => []
 | x :: r => x.enc :: T.Rx.xq r
end
theorem T.Rx.yj : ∀ l : List T.Rx,T.Rx.xq l = l.map T.Rx.enc
 | [] => rfl
 | x :: r => by simp [T.Rx.xq,T.Rx.yj r]
theorem T.Rx.q0q (s : Sl T.Rx) : T.Rx.encS s = .sl s.nil (szc 8 s.l) (s.l.map T.Rx.enc) := by cases s; simp [T.Rx.encS,T.Rx.yj]
theorem T.Rx.qb (x : T.Rx) : x.enc = [PV.int IntKind.i64 x.kind,PV.str x.char,PV.bool x.not,PV.sl x.rows.nil (szc 2 x.rows.l) (List.map T.Row.enc x.rows.l),PV.int IntKind.i64 x.min,PV.int IntKind.i64 x.max,PV.bool x.lazy,PV.sl x.kids.nil (szc 8 x.kids.l) (List.map T.Rx.enc x.kids.l)] := by cases x; simp [T.Rx.enc,T.Rx.q0q]
mutual
def T.Rx.ok : T.Rx → Prop
 | ⟨x0,x1,x2,x3,x4,x5,x6,x7⟩ => inI x0 ∧ zy x1 ∧ zn x2 ∧ (zi T.Row.ok) x3 ∧ inI x4 ∧ inI x5 ∧ zn x6 ∧ T.Rx.okS x7 ∧ True
def T.Rx.okS : Sl T.Rx → Prop
 | ⟨b,l⟩ => (l.length ≤ maxLen ∧ (b = true → l = [])) ∧ T.Rx.okL l
def T.Rx.okL : List T.Rx → Prop
 | [] => True
 | x :: r => x.ok ∧ T.Rx.okL r
end
structure T.Fmt where
 kind : Int
 n : Int
 cas : Int
 thn : Bytes
 els : Bytes
 deriving Inhabited,DecidableEq
def T.Fmt.enc (x : T.Fmt) : List PV :=
 [PV.int IntKind.i64 x.kind,PV.int IntKind.i64 x.n,PV.int IntKind.i64 x.cas,PV.str x.thn,PV.str x.els]
theorem T.Fmt.qb (x : T.Fmt) : x.enc = [PV.int IntKind.i64 x.kind,PV.int IntKind.i64 x.n,PV.int IntKind.i64 x.cas,PV.str x.thn,PV.str x.els] := rfl
def T.Fmt.ok (x : T.Fmt) : Prop := inI x.kind ∧ inI x.n ∧ inI x.cas ∧ zy x.thn ∧ zy x.els ∧ True
structure T.Form where
 rx : T.Rx
 fmts : (Sl T.Fmt)
 fold : Bool
 all : Bool
 deriving Inhabited
def T.Form.enc (x : T.Form) : List PV :=
 [PV.int IntKind.i64 x.rx.kind,PV.str x.rx.char,PV.bool x.rx.not,PV.sl x.rx.rows.nil (szc 2 x.rx.rows.l) (List.map T.Row.enc x.rx.rows.l),PV.int IntKind.i64 x.rx.min,PV.int IntKind.i64 x.rx.max,PV.bool x.rx.lazy,PV.sl x.rx.kids.nil (szc 8 x.rx.kids.l) (List.map T.Rx.enc x.rx.kids.l),PV.sl x.fmts.nil (szc 5 x.fmts.l) (List.map T.Fmt.enc x.fmts.l),PV.bool x.fold,PV.bool x.all]
theorem T.Form.qb (x : T.Form) : x.enc = [PV.int IntKind.i64 x.rx.kind,PV.str x.rx.char,PV.bool x.rx.not,PV.sl x.rx.rows.nil (szc 2 x.rx.rows.l) (List.map T.Row.enc x.rx.rows.l),PV.int IntKind.i64 x.rx.min,PV.int IntKind.i64 x.rx.max,PV.bool x.rx.lazy,PV.sl x.rx.kids.nil (szc 8 x.rx.kids.l) (List.map T.Rx.enc x.rx.kids.l),PV.sl x.fmts.nil (szc 5 x.fmts.l) (List.map T.Fmt.enc x.fmts.l),PV.bool x.fold,PV.bool x.all] := rfl
def T.Form.ok (x : T.Form) : Prop := T.Rx.ok x.rx ∧ (zi T.Fmt.ok) x.fmts ∧ zn x.fold ∧ zn x.all ∧ True
structure T.Stop where
 span : T.Span
 n : Int
 up : Int
 first : Bool
 turned : Bool
 form : T.Form
 opts : (Sl Bytes)
 deriving Inhabited
def T.Stop.enc (x : T.Stop) : List PV :=
 [PV.int IntKind.i64 x.span.frm,PV.int IntKind.i64 x.span.to,PV.int IntKind.i64 x.n,PV.int IntKind.i64 x.up,PV.bool x.first,PV.bool x.turned,PV.int IntKind.i64 x.form.rx.kind,PV.str x.form.rx.char,PV.bool x.form.rx.not,PV.sl x.form.rx.rows.nil (szc 2 x.form.rx.rows.l) (List.map T.Row.enc x.form.rx.rows.l),PV.int IntKind.i64 x.form.rx.min,PV.int IntKind.i64 x.form.rx.max,PV.bool x.form.rx.lazy,PV.sl x.form.rx.kids.nil (szc 8 x.form.rx.kids.l) (List.map T.Rx.enc x.form.rx.kids.l),PV.sl x.form.fmts.nil (szc 5 x.form.fmts.l) (List.map T.Fmt.enc x.form.fmts.l),PV.bool x.form.fold,PV.bool x.form.all,PV.sl x.opts.nil (szc 1 x.opts.l) (List.map j6 x.opts.l)]
theorem T.Stop.qb (x : T.Stop) : x.enc = [PV.int IntKind.i64 x.span.frm,PV.int IntKind.i64 x.span.to,PV.int IntKind.i64 x.n,PV.int IntKind.i64 x.up,PV.bool x.first,PV.bool x.turned,PV.int IntKind.i64 x.form.rx.kind,PV.str x.form.rx.char,PV.bool x.form.rx.not,PV.sl x.form.rx.rows.nil (szc 2 x.form.rx.rows.l) (List.map T.Row.enc x.form.rx.rows.l),PV.int IntKind.i64 x.form.rx.min,PV.int IntKind.i64 x.form.rx.max,PV.bool x.form.rx.lazy,PV.sl x.form.rx.kids.nil (szc 8 x.form.rx.kids.l) (List.map T.Rx.enc x.form.rx.kids.l),PV.sl x.form.fmts.nil (szc 5 x.form.fmts.l) (List.map T.Fmt.enc x.form.fmts.l),PV.bool x.form.fold,PV.bool x.form.all,PV.sl x.opts.nil (szc 1 x.opts.l) (List.map j6 x.opts.l)] := rfl
def T.Stop.ok (x : T.Stop) : Prop := T.Span.ok x.span ∧ inI x.n ∧ inI x.up ∧ zn x.first ∧ zn x.turned ∧ T.Form.ok x.form ∧ (zi zy) x.opts ∧ True
structure T.jg where
 span : T.Span
 stops : (Sl T.Stop)
 deriving Inhabited
def T.jg.enc (x : T.jg) : List PV :=
 [PV.int IntKind.i64 x.span.frm,PV.int IntKind.i64 x.span.to,PV.sl x.stops.nil (szc 18 x.stops.l) (List.map T.Stop.enc x.stops.l)]
theorem T.jg.qb (x : T.jg) : x.enc = [PV.int IntKind.i64 x.span.frm,PV.int IntKind.i64 x.span.to,PV.sl x.stops.nil (szc 18 x.stops.l) (List.map T.Stop.enc x.stops.l)] := rfl
def T.jg.ok (x : T.jg) : Prop := T.Span.ok x.span ∧ (zi T.Stop.ok) x.stops ∧ True
structure T.jw where
 cur : Int
 insts : (Sl T.jg)
 deriving Inhabited
def T.jw.enc (x : T.jw) : List PV :=
 [PV.int IntKind.i64 x.cur,PV.sl x.insts.nil (szc 3 x.insts.l) (List.map T.jg.enc x.insts.l)]
theorem T.jw.qb (x : T.jw) : x.enc = [PV.int IntKind.i64 x.cur,PV.sl x.insts.nil (szc 3 x.insts.l) (List.map T.jg.enc x.insts.l)] := rfl
def T.jw.ok (x : T.jw) : Prop := inI x.cur ∧ (zi T.jg.ok) x.insts ∧ True
structure T.State where
 text : Bytes
 sels : (Sl T.Sel)
 sessions : (Sl T.jw)
 deriving Inhabited
def T.State.enc (x : T.State) : List PV :=
 [PV.str x.text,PV.sl x.sels.nil (szc 2 x.sels.l) (List.map T.Sel.enc x.sels.l),PV.sl x.sessions.nil (szc 2 x.sessions.l) (List.map T.jw.enc x.sessions.l)]
theorem T.State.qb (x : T.State) : x.enc = [PV.str x.text,PV.sl x.sels.nil (szc 2 x.sels.l) (List.map T.Sel.enc x.sels.l),PV.sl x.sessions.nil (szc 2 x.sessions.l) (List.map T.jw.enc x.sessions.l)] := rfl
def T.State.ok (x : T.State) : Prop := zy x.text ∧ (zi T.Sel.ok) x.sels ∧ (zi T.jw.ok) x.sessions ∧ True
structure T.ug where
 b : (Sl UInt8)
 at_ : Int
 deriving Inhabited,DecidableEq
def T.ug.enc (x : T.ug) : List PV :=
 [PV.sl x.b.nil (szc 1 x.b.l) (List.map q17 x.b.l),PV.int IntKind.i64 x.at_]
theorem T.ug.qb (x : T.ug) : x.enc = [PV.sl x.b.nil (szc 1 x.b.l) (List.map q17 x.b.l),PV.int IntKind.i64 x.at_] := rfl
def T.ug.ok (x : T.ug) : Prop := (zi zn) x.b ∧ inI x.at_ ∧ True
structure T.p9 where
 place : T.ug
 ok_ : Bool
 deriving Inhabited,DecidableEq
def T.p9.enc (x : T.p9) : List PV :=
 [PV.sl x.place.b.nil (szc 1 x.place.b.l) (List.map q17 x.place.b.l),PV.int IntKind.i64 x.place.at_,PV.bool x.ok_]
theorem T.p9.qb (x : T.p9) : x.enc = [PV.sl x.place.b.nil (szc 1 x.place.b.l) (List.map q17 x.place.b.l),PV.int IntKind.i64 x.place.at_,PV.bool x.ok_] := rfl
def T.p9.ok (x : T.p9) : Prop := T.ug.ok x.place ∧ zn x.ok_ ∧ True
structure T.pz where
 name : Bytes
 value : Bytes
 deriving Inhabited,DecidableEq
def T.pz.enc (x : T.pz) : List PV :=
 [PV.str x.name,PV.str x.value]
theorem T.pz.qb (x : T.pz) : x.enc = [PV.str x.name,PV.str x.value] := rfl
def T.pz.ok (x : T.pz) : Prop := zy x.name ∧ zy x.value ∧ True
structure T.q05 where
 nums : (Sl Int)
 told : Int
 last : Int
 deriving Inhabited,DecidableEq
def T.q05.enc (x : T.q05) : List PV :=
 [PV.sl x.nums.nil (szc 1 x.nums.l) (List.map (kE IntKind.u32) x.nums.l),PV.int IntKind.i64 x.told,PV.int IntKind.u32 x.last]
theorem T.q05.qb (x : T.q05) : x.enc = [PV.sl x.nums.nil (szc 1 x.nums.l) (List.map (kE IntKind.u32) x.nums.l),PV.int IntKind.i64 x.told,PV.int IntKind.u32 x.last] := rfl
def T.q05.ok (x : T.q05) : Prop := (zi zn) x.nums ∧ inI x.told ∧ zn x.last ∧ True
structure T.mq where
 most : Int
 behind : (Sl T.State)
 ahead : (Sl T.State)
 deriving Inhabited
def T.mq.enc (x : T.mq) : List PV :=
 [PV.int IntKind.i64 x.most,PV.sl x.behind.nil (szc 3 x.behind.l) (List.map T.State.enc x.behind.l),PV.sl x.ahead.nil (szc 3 x.ahead.l) (List.map T.State.enc x.ahead.l)]
theorem T.mq.qb (x : T.mq) : x.enc = [PV.int IntKind.i64 x.most,PV.sl x.behind.nil (szc 3 x.behind.l) (List.map T.State.enc x.behind.l),PV.sl x.ahead.nil (szc 3 x.ahead.l) (List.map T.State.enc x.ahead.l)] := rfl
def T.mq.ok (x : T.mq) : Prop := inI x.most ∧ (zi T.State.ok) x.behind ∧ (zi T.State.ok) x.ahead ∧ True
structure T.q0g where
 s : Bytes
 at_ : Int
 deriving Inhabited,DecidableEq
def T.q0g.enc (x : T.q0g) : List PV :=
 [PV.str x.s,PV.int IntKind.i64 x.at_]
theorem T.q0g.qb (x : T.q0g) : x.enc = [PV.str x.s,PV.int IntKind.i64 x.at_] := rfl
def T.q0g.ok (x : T.q0g) : Prop := zy x.s ∧ inI x.at_ ∧ True
structure T.q04 where
 bytes : Int
 breaks : Int
 runes : Int
 units : Int
 deriving Inhabited,DecidableEq
def T.q04.enc (x : T.q04) : List PV :=
 [PV.int IntKind.i64 x.bytes,PV.int IntKind.i64 x.breaks,PV.int IntKind.i64 x.runes,PV.int IntKind.i64 x.units]
theorem T.q04.qb (x : T.q04) : x.enc = [PV.int IntKind.i64 x.bytes,PV.int IntKind.i64 x.breaks,PV.int IntKind.i64 x.runes,PV.int IntKind.i64 x.units] := rfl
def T.q04.ok (x : T.q04) : Prop := inI x.bytes ∧ inI x.breaks ∧ inI x.runes ∧ inI x.units ∧ True
structure T.ky where
 id : Int
 held : Bool
 deriving Inhabited,DecidableEq
def T.ky.enc (x : T.ky) : List PV :=
 [PV.int IntKind.i64 x.id,PV.bool x.held]
theorem T.ky.qb (x : T.ky) : x.enc = [PV.int IntKind.i64 x.id,PV.bool x.held] := rfl
def T.ky.ok (x : T.ky) : Prop := inI x.id ∧ zn x.held ∧ True
structure T.wm where
 session : T.jw
 marks : (Sl (Sl T.ky))
 deriving Inhabited
def T.wm.enc (x : T.wm) : List PV :=
 [PV.int IntKind.i64 x.session.cur,PV.sl x.session.insts.nil (szc 3 x.session.insts.l) (List.map T.jg.enc x.session.insts.l),PV.sl x.marks.nil (szc 1 x.marks.l) (List.map (slE 2 T.ky.enc) x.marks.l)]
theorem T.wm.qb (x : T.wm) : x.enc = [PV.int IntKind.i64 x.session.cur,PV.sl x.session.insts.nil (szc 3 x.session.insts.l) (List.map T.jg.enc x.session.insts.l),PV.sl x.marks.nil (szc 1 x.marks.l) (List.map (slE 2 T.ky.enc) x.marks.l)] := rfl
def T.wm.ok (x : T.wm) : Prop := T.jw.ok x.session ∧ (zi (zi T.ky.ok)) x.marks ∧ True
structure T.mg where
 text : Bytes
 sels : (Sl T.Sel)
 sessions : (Sl T.wm)
 deriving Inhabited
def T.mg.enc (x : T.mg) : List PV :=
 [PV.str x.text,PV.sl x.sels.nil (szc 2 x.sels.l) (List.map T.Sel.enc x.sels.l),PV.sl x.sessions.nil (szc 3 x.sessions.l) (List.map T.wm.enc x.sessions.l)]
theorem T.mg.qb (x : T.mg) : x.enc = [PV.str x.text,PV.sl x.sels.nil (szc 2 x.sels.l) (List.map T.Sel.enc x.sels.l),PV.sl x.sessions.nil (szc 3 x.sessions.l) (List.map T.wm.enc x.sessions.l)] := rfl
def T.mg.ok (x : T.mg) : Prop := zy x.text ∧ (zi T.Sel.ok) x.sels ∧ (zi T.wm.ok) x.sessions ∧ True
structure T.ql where
 kind : Int
 text : Bytes
 n : Int
 has : Bool
 turned : Bool
 form : T.Form
 opts : (Sl Bytes)
 kids : (Sl T.ql)
 deriving Inhabited
mutual
def T.ql.enc : T.ql → List PV
 | ⟨x0,x1,x2,x3,x4,x5,x6,x7⟩ => [PV.int IntKind.i64 x0,PV.str x1,PV.int IntKind.i64 x2,PV.bool x3,PV.bool x4,PV.int IntKind.i64 x5.rx.kind,PV.str x5.rx.char,PV.bool x5.rx.not,PV.sl x5.rx.rows.nil (szc 2 x5.rx.rows.l) (List.map T.Row.enc x5.rx.rows.l),PV.int IntKind.i64 x5.rx.min,PV.int IntKind.i64 x5.rx.max,PV.bool x5.rx.lazy,PV.sl x5.rx.kids.nil (szc 8 x5.rx.kids.l) (List.map T.Rx.enc x5.rx.kids.l),PV.sl x5.fmts.nil (szc 5 x5.fmts.l) (List.map T.Fmt.enc x5.fmts.l),PV.bool x5.fold,PV.bool x5.all,PV.sl x6.nil (szc 1 x6.l) (List.map j6 x6.l),T.ql.encS x7]
def T.ql.encS : Sl T.ql → PV
 | ⟨b,l⟩ => .sl b (szc 18 l) (T.ql.xq l)
def T.ql.xq : List T.ql → List (List PV)
 | [] => []
 | x :: r => x.enc :: T.ql.xq r
end
theorem T.ql.yj : ∀ l : List T.ql,T.ql.xq l = l.map T.ql.enc
 | [] => rfl
 | x :: r => by simp [T.ql.xq,T.ql.yj r]
theorem T.ql.q0q (s : Sl T.ql) : T.ql.encS s = .sl s.nil (szc 18 s.l) (s.l.map T.ql.enc) := by cases s; simp [T.ql.encS,T.ql.yj]
theorem T.ql.qb (x : T.ql) : x.enc = [PV.int IntKind.i64 x.kind,PV.str x.text,PV.int IntKind.i64 x.n,PV.bool x.has,PV.bool x.turned,PV.int IntKind.i64 x.form.rx.kind,PV.str x.form.rx.char,PV.bool x.form.rx.not,PV.sl x.form.rx.rows.nil (szc 2 x.form.rx.rows.l) (List.map T.Row.enc x.form.rx.rows.l),PV.int IntKind.i64 x.form.rx.min,PV.int IntKind.i64 x.form.rx.max,PV.bool x.form.rx.lazy,PV.sl x.form.rx.kids.nil (szc 8 x.form.rx.kids.l) (List.map T.Rx.enc x.form.rx.kids.l),PV.sl x.form.fmts.nil (szc 5 x.form.fmts.l) (List.map T.Fmt.enc x.form.fmts.l),PV.bool x.form.fold,PV.bool x.form.all,PV.sl x.opts.nil (szc 1 x.opts.l) (List.map j6 x.opts.l),PV.sl x.kids.nil (szc 18 x.kids.l) (List.map T.ql.enc x.kids.l)] := by cases x; simp [T.ql.enc,T.ql.q0q]
mutual
def T.ql.ok : T.ql → Prop
 | ⟨x0,x1,x2,x3,x4,x5,x6,x7⟩ => inI x0 ∧ zy x1 ∧ inI x2 ∧ zn x3 ∧ zn x4 ∧ T.Form.ok x5 ∧ (zi zy) x6 ∧ T.ql.okS x7 ∧ True
def T.ql.okS : Sl T.ql → Prop
 | ⟨b,l⟩ => (l.length ≤ maxLen ∧ (b = true → l = [])) ∧ T.ql.okL l
def T.ql.okL : List T.ql → Prop
 | [] => True
 | x :: r => x.ok ∧ T.ql.okL r
end
structure T.Range where
 span : T.Span
 fromRight : Bool
 toRight : Bool
 parent : Int
 deriving Inhabited,DecidableEq
def T.Range.enc (x : T.Range) : List PV :=
 [PV.int IntKind.i64 x.span.frm,PV.int IntKind.i64 x.span.to,PV.bool x.fromRight,PV.bool x.toRight,PV.int IntKind.i64 x.parent]
theorem T.Range.qb (x : T.Range) : x.enc = [PV.int IntKind.i64 x.span.frm,PV.int IntKind.i64 x.span.to,PV.bool x.fromRight,PV.bool x.toRight,PV.int IntKind.i64 x.parent] := rfl
def T.Range.ok (x : T.Range) : Prop := T.Span.ok x.span ∧ zn x.fromRight ∧ zn x.toRight ∧ inI x.parent ∧ True
structure T.q0k where
 part : T.ql
 end_ : Int
 ok_ : Bool
 deriving Inhabited
def T.q0k.enc (x : T.q0k) : List PV :=
 [PV.int IntKind.i64 x.part.kind,PV.str x.part.text,PV.int IntKind.i64 x.part.n,PV.bool x.part.has,PV.bool x.part.turned,PV.int IntKind.i64 x.part.form.rx.kind,PV.str x.part.form.rx.char,PV.bool x.part.form.rx.not,PV.sl x.part.form.rx.rows.nil (szc 2 x.part.form.rx.rows.l) (List.map T.Row.enc x.part.form.rx.rows.l),PV.int IntKind.i64 x.part.form.rx.min,PV.int IntKind.i64 x.part.form.rx.max,PV.bool x.part.form.rx.lazy,PV.sl x.part.form.rx.kids.nil (szc 8 x.part.form.rx.kids.l) (List.map T.Rx.enc x.part.form.rx.kids.l),PV.sl x.part.form.fmts.nil (szc 5 x.part.form.fmts.l) (List.map T.Fmt.enc x.part.form.fmts.l),PV.bool x.part.form.fold,PV.bool x.part.form.all,PV.sl x.part.opts.nil (szc 1 x.part.opts.l) (List.map j6 x.part.opts.l),PV.sl x.part.kids.nil (szc 18 x.part.kids.l) (List.map T.ql.enc x.part.kids.l),PV.int IntKind.i64 x.end_,PV.bool x.ok_]
theorem T.q0k.qb (x : T.q0k) : x.enc = [PV.int IntKind.i64 x.part.kind,PV.str x.part.text,PV.int IntKind.i64 x.part.n,PV.bool x.part.has,PV.bool x.part.turned,PV.int IntKind.i64 x.part.form.rx.kind,PV.str x.part.form.rx.char,PV.bool x.part.form.rx.not,PV.sl x.part.form.rx.rows.nil (szc 2 x.part.form.rx.rows.l) (List.map T.Row.enc x.part.form.rx.rows.l),PV.int IntKind.i64 x.part.form.rx.min,PV.int IntKind.i64 x.part.form.rx.max,PV.bool x.part.form.rx.lazy,PV.sl x.part.form.rx.kids.nil (szc 8 x.part.form.rx.kids.l) (List.map T.Rx.enc x.part.form.rx.kids.l),PV.sl x.part.form.fmts.nil (szc 5 x.part.form.fmts.l) (List.map T.Fmt.enc x.part.form.fmts.l),PV.bool x.part.form.fold,PV.bool x.part.form.all,PV.sl x.part.opts.nil (szc 1 x.part.opts.l) (List.map j6 x.part.opts.l),PV.sl x.part.kids.nil (szc 18 x.part.kids.l) (List.map T.ql.enc x.part.kids.l),PV.int IntKind.i64 x.end_,PV.bool x.ok_] := rfl
def T.q0k.ok (x : T.q0k) : Prop := T.ql.ok x.part ∧ inI x.end_ ∧ zn x.ok_ ∧ True
structure T.q08 where
 e : T.jv
 does : (Sl (Sl Int))
 inst : Int
 place : Int
 deriving Inhabited,DecidableEq
def T.q08.enc (x : T.q08) : List PV :=
 [PV.int IntKind.i64 x.e.span.frm,PV.int IntKind.i64 x.e.span.to,PV.str x.e.text,PV.sl x.does.nil (szc 1 x.does.l) (List.map (slE 1 q1o) x.does.l),PV.int IntKind.i64 x.inst,PV.int IntKind.i64 x.place]
theorem T.q08.qb (x : T.q08) : x.enc = [PV.int IntKind.i64 x.e.span.frm,PV.int IntKind.i64 x.e.span.to,PV.str x.e.text,PV.sl x.does.nil (szc 1 x.does.l) (List.map (slE 1 q1o) x.does.l),PV.int IntKind.i64 x.inst,PV.int IntKind.i64 x.place] := rfl
def T.q08.ok (x : T.q08) : Prop := T.jv.ok x.e ∧ (zi (zi inI)) x.does ∧ inI x.inst ∧ inI x.place ∧ True
structure T.mo where
 span : T.Span
 parts : (Sl T.Span)
 deriving Inhabited,DecidableEq
def T.mo.enc (x : T.mo) : List PV :=
 [PV.int IntKind.i64 x.span.frm,PV.int IntKind.i64 x.span.to,PV.sl x.parts.nil (szc 2 x.parts.l) (List.map T.Span.enc x.parts.l)]
theorem T.mo.qb (x : T.mo) : x.enc = [PV.int IntKind.i64 x.span.frm,PV.int IntKind.i64 x.span.to,PV.sl x.parts.nil (szc 2 x.parts.l) (List.map T.Span.enc x.parts.l)] := rfl
def T.mo.ok (x : T.mo) : Prop := T.Span.ok x.span ∧ (zi T.Span.ok) x.parts ∧ True
structure T.qo where
 text : Bytes
 adapt : Bool
 stop : Bool
 turned : Bool
 form : T.Form
 n : Int
 first : Bool
 opts : (Sl Bytes)
 kids : (Sl T.qo)
 size : Int
 deriving Inhabited
mutual
def T.qo.enc : T.qo → List PV
 | ⟨x0,x1,x2,x3,x4,x5,x6,x7,x8,x9⟩ => [PV.str x0,PV.bool x1,PV.bool x2,PV.bool x3,PV.int IntKind.i64 x4.rx.kind,PV.str x4.rx.char,PV.bool x4.rx.not,PV.sl x4.rx.rows.nil (szc 2 x4.rx.rows.l) (List.map T.Row.enc x4.rx.rows.l),PV.int IntKind.i64 x4.rx.min,PV.int IntKind.i64 x4.rx.max,PV.bool x4.rx.lazy,PV.sl x4.rx.kids.nil (szc 8 x4.rx.kids.l) (List.map T.Rx.enc x4.rx.kids.l),PV.sl x4.fmts.nil (szc 5 x4.fmts.l) (List.map T.Fmt.enc x4.fmts.l),PV.bool x4.fold,PV.bool x4.all,PV.int IntKind.i64 x5,PV.bool x6,PV.sl x7.nil (szc 1 x7.l) (List.map j6 x7.l),T.qo.encS x8,PV.int IntKind.i64 x9]
def T.qo.encS : Sl T.qo → PV
 | ⟨b,l⟩ => .sl b (szc 20 l) (T.qo.xq l)
def T.qo.xq : List T.qo → List (List PV)
 | [] => []
 | x :: r => x.enc :: T.qo.xq r
end
theorem T.qo.yj : ∀ l : List T.qo,T.qo.xq l = l.map T.qo.enc
 | [] => rfl
 | x :: r => by simp [T.qo.xq,T.qo.yj r]
theorem T.qo.q0q (s : Sl T.qo) : T.qo.encS s = .sl s.nil (szc 20 s.l) (s.l.map T.qo.enc) := by cases s; simp [T.qo.encS,T.qo.yj]
theorem T.qo.qb (x : T.qo) : x.enc = [PV.str x.text,PV.bool x.adapt,PV.bool x.stop,PV.bool x.turned,PV.int IntKind.i64 x.form.rx.kind,PV.str x.form.rx.char,PV.bool x.form.rx.not,PV.sl x.form.rx.rows.nil (szc 2 x.form.rx.rows.l) (List.map T.Row.enc x.form.rx.rows.l),PV.int IntKind.i64 x.form.rx.min,PV.int IntKind.i64 x.form.rx.max,PV.bool x.form.rx.lazy,PV.sl x.form.rx.kids.nil (szc 8 x.form.rx.kids.l) (List.map T.Rx.enc x.form.rx.kids.l),PV.sl x.form.fmts.nil (szc 5 x.form.fmts.l) (List.map T.Fmt.enc x.form.fmts.l),PV.bool x.form.fold,PV.bool x.form.all,PV.int IntKind.i64 x.n,PV.bool x.first,PV.sl x.opts.nil (szc 1 x.opts.l) (List.map j6 x.opts.l),PV.sl x.kids.nil (szc 20 x.kids.l) (List.map T.qo.enc x.kids.l),PV.int IntKind.i64 x.size] := by cases x; simp [T.qo.enc,T.qo.q0q]
mutual
def T.qo.ok : T.qo → Prop
 | ⟨x0,x1,x2,x3,x4,x5,x6,x7,x8,x9⟩ => zy x0 ∧ zn x1 ∧ zn x2 ∧ zn x3 ∧ T.Form.ok x4 ∧ inI x5 ∧ zn x6 ∧ (zi zy) x7 ∧ T.qo.okS x8 ∧ inI x9 ∧ True
def T.qo.okS : Sl T.qo → Prop
 | ⟨b,l⟩ => (l.length ≤ maxLen ∧ (b = true → l = [])) ∧ T.qo.okL l
def T.qo.okL : List T.qo → Prop
 | [] => True
 | x :: r => x.ok ∧ T.qo.okL r
end
structure T.qm where
 rx : T.Rx
 kids : (Sl T.qm)
 lo : Int
 hi : Int
 deriving Inhabited
mutual
def T.qm.enc : T.qm → List PV
 | ⟨x0,x1,x2,x3⟩ => [PV.int IntKind.i64 x0.kind,PV.str x0.char,PV.bool x0.not,PV.sl x0.rows.nil (szc 2 x0.rows.l) (List.map T.Row.enc x0.rows.l),PV.int IntKind.i64 x0.min,PV.int IntKind.i64 x0.max,PV.bool x0.lazy,PV.sl x0.kids.nil (szc 8 x0.kids.l) (List.map T.Rx.enc x0.kids.l),T.qm.encS x1,PV.int IntKind.i64 x2,PV.int IntKind.i64 x3]
def T.qm.encS : Sl T.qm → PV
 | ⟨b,l⟩ => .sl b (szc 11 l) (T.qm.xq l)
def T.qm.xq : List T.qm → List (List PV)
 | [] => []
 | x :: r => x.enc :: T.qm.xq r
end
theorem T.qm.yj : ∀ l : List T.qm,T.qm.xq l = l.map T.qm.enc
 | [] => rfl
 | x :: r => by simp [T.qm.xq,T.qm.yj r]
theorem T.qm.q0q (s : Sl T.qm) : T.qm.encS s = .sl s.nil (szc 11 s.l) (s.l.map T.qm.enc) := by cases s; simp [T.qm.encS,T.qm.yj]
theorem T.qm.qb (x : T.qm) : x.enc = [PV.int IntKind.i64 x.rx.kind,PV.str x.rx.char,PV.bool x.rx.not,PV.sl x.rx.rows.nil (szc 2 x.rx.rows.l) (List.map T.Row.enc x.rx.rows.l),PV.int IntKind.i64 x.rx.min,PV.int IntKind.i64 x.rx.max,PV.bool x.rx.lazy,PV.sl x.rx.kids.nil (szc 8 x.rx.kids.l) (List.map T.Rx.enc x.rx.kids.l),PV.sl x.kids.nil (szc 11 x.kids.l) (List.map T.qm.enc x.kids.l),PV.int IntKind.i64 x.lo,PV.int IntKind.i64 x.hi] := by cases x; simp [T.qm.enc,T.qm.q0q]
mutual
def T.qm.ok : T.qm → Prop
 | ⟨x0,x1,x2,x3⟩ => T.Rx.ok x0 ∧ T.qm.okS x1 ∧ inI x2 ∧ inI x3 ∧ True
def T.qm.okS : Sl T.qm → Prop
 | ⟨b,l⟩ => (l.length ≤ maxLen ∧ (b = true → l = [])) ∧ T.qm.okL l
def T.qm.okL : List T.qm → Prop
 | [] => True
 | x :: r => x.ok ∧ T.qm.okL r
end
structure T.p8 where
 top : T.qm
 fold : Bool
 chars : (Sl Bytes)
 places : (Sl Int)
 parts : (Sl T.Span)
 fuel : Int
 out : Bool
 deriving Inhabited
def T.p8.enc (x : T.p8) : List PV :=
 [PV.int IntKind.i64 x.top.rx.kind,PV.str x.top.rx.char,PV.bool x.top.rx.not,PV.sl x.top.rx.rows.nil (szc 2 x.top.rx.rows.l) (List.map T.Row.enc x.top.rx.rows.l),PV.int IntKind.i64 x.top.rx.min,PV.int IntKind.i64 x.top.rx.max,PV.bool x.top.rx.lazy,PV.sl x.top.rx.kids.nil (szc 8 x.top.rx.kids.l) (List.map T.Rx.enc x.top.rx.kids.l),PV.sl x.top.kids.nil (szc 11 x.top.kids.l) (List.map T.qm.enc x.top.kids.l),PV.int IntKind.i64 x.top.lo,PV.int IntKind.i64 x.top.hi,PV.bool x.fold,PV.sl x.chars.nil (szc 1 x.chars.l) (List.map j6 x.chars.l),PV.sl x.places.nil (szc 1 x.places.l) (List.map q1o x.places.l),PV.sl x.parts.nil (szc 2 x.parts.l) (List.map T.Span.enc x.parts.l),PV.int IntKind.i64 x.fuel,PV.bool x.out]
theorem T.p8.qb (x : T.p8) : x.enc = [PV.int IntKind.i64 x.top.rx.kind,PV.str x.top.rx.char,PV.bool x.top.rx.not,PV.sl x.top.rx.rows.nil (szc 2 x.top.rx.rows.l) (List.map T.Row.enc x.top.rx.rows.l),PV.int IntKind.i64 x.top.rx.min,PV.int IntKind.i64 x.top.rx.max,PV.bool x.top.rx.lazy,PV.sl x.top.rx.kids.nil (szc 8 x.top.rx.kids.l) (List.map T.Rx.enc x.top.rx.kids.l),PV.sl x.top.kids.nil (szc 11 x.top.kids.l) (List.map T.qm.enc x.top.kids.l),PV.int IntKind.i64 x.top.lo,PV.int IntKind.i64 x.top.hi,PV.bool x.fold,PV.sl x.chars.nil (szc 1 x.chars.l) (List.map j6 x.chars.l),PV.sl x.places.nil (szc 1 x.places.l) (List.map q1o x.places.l),PV.sl x.parts.nil (szc 2 x.parts.l) (List.map T.Span.enc x.parts.l),PV.int IntKind.i64 x.fuel,PV.bool x.out] := rfl
def T.p8.ok (x : T.p8) : Prop := T.qm.ok x.top ∧ zn x.fold ∧ (zi zy) x.chars ∧ (zi inI) x.places ∧ (zi T.Span.ok) x.parts ∧ inI x.fuel ∧ zn x.out ∧ True
structure T.pq where
 text : Bytes
 deriving Inhabited,DecidableEq
def T.pq.enc (x : T.pq) : List PV :=
 [PV.str x.text]
theorem T.pq.qb (x : T.pq) : x.enc = [PV.str x.text] := rfl
def T.pq.ok (x : T.pq) : Prop := zy x.text ∧ True
structure T.uk where
 all : (Sl Bytes)
 at_ : Int
 deriving Inhabited,DecidableEq
def T.uk.enc (x : T.uk) : List PV :=
 [PV.sl x.all.nil (szc 1 x.all.l) (List.map j6 x.all.l),PV.int IntKind.i64 x.at_]
theorem T.uk.qb (x : T.uk) : x.enc = [PV.sl x.all.nil (szc 1 x.all.l) (List.map j6 x.all.l),PV.int IntKind.i64 x.at_] := rfl
def T.uk.ok (x : T.uk) : Prop := (zi zy) x.all ∧ inI x.at_ ∧ True
structure T.mi where
 place : T.uk
 deep : Int
 deriving Inhabited,DecidableEq
def T.mi.enc (x : T.mi) : List PV :=
 [PV.sl x.place.all.nil (szc 1 x.place.all.l) (List.map j6 x.place.all.l),PV.int IntKind.i64 x.place.at_,PV.int IntKind.i64 x.deep]
theorem T.mi.qb (x : T.mi) : x.enc = [PV.sl x.place.all.nil (szc 1 x.place.all.l) (List.map j6 x.place.all.l),PV.int IntKind.i64 x.place.at_,PV.int IntKind.i64 x.deep] := rfl
def T.mi.ok (x : T.mi) : Prop := T.uk.ok x.place ∧ inI x.deep ∧ True
def aw4 : Option Bool := some true
theorem z9m {α : Type} {u0 u1 : Bool} {p q : Option α} {r : α} {P : Prop} (f : ((u0 = true ∧ Dum) ∨ (u0 = false ∧ u1 = true)) → p = some r → P) (g : u0 = false → u1 = false → q = some r → P) (h : (if (u0 || u1) = true then p else q) = some r) : P := by cases u0 <;> cases u1 <;> simp_all [Dum]
theorem qb7 (n : Nat) : 0 + n = n := Nat.zero_add n
def en := PLift.up (And.intro (And.intro (And.intro (And.intro (And.intro qjh.down qrq.down) (And.intro @qb7 (And.intro @Int.cast_ofNat_Int @List.append_nil.{0}))) (And.intro (And.intro @List.nil_append.{0} @List.cons_append.{0}) (And.intro @T.Span.qb (And.intro @T.jv.qb @T.Sel.qb)))) (And.intro (And.intro (And.intro @T.Op.qb @T.Row.qb) (And.intro @T.Rx.qb (And.intro @T.Fmt.qb @T.Form.qb))) (And.intro (And.intro @T.Stop.qb @T.jg.qb) (And.intro @T.jw.qb (And.intro @T.State.qb @T.ug.qb))))) (And.intro (And.intro (And.intro (And.intro @T.p9.qb @T.pz.qb) (And.intro @T.q05.qb (And.intro @T.mq.qb @T.q0g.qb))) (And.intro (And.intro @T.q04.qb @T.ky.qb) (And.intro @T.wm.qb (And.intro @T.mg.qb @T.ql.qb)))) (And.intro (And.intro (And.intro @T.Range.qb @T.q0k.qb) (And.intro @T.q08.qb (And.intro @T.mo.qb @T.qo.qb))) (And.intro (And.intro @T.qm.qb @T.p8.qb) (And.intro @T.pq.qb (And.intro @T.uk.qb @T.mi.qb))))))
end Go.Proofs.YtljbbncgpbgboaaGreatDoor
