/-
  Go's structs as Lean's.
-/
import Derived.Lib.ItoaNum
import Derived.Test.YtaglodpkpggdiaaGreatDoorMad
set_option linter.unusedSimpArgs false
set_option linter.unusedVariables false
set_option maxRecDepth 100000
namespace Go.Proofs.YtaglodpkpggdiaaGreatDoor
open Go Go.Gm
structure T.Span where
 frm : Int
 to : Int
 deriving Inhabited,DecidableEq
def T.Span.enc (x : T.Span) : List PV :=
 [PV.int IntKind.i64 x.frm,PV.int IntKind.i64 x.to]
theorem T.Span.qf (x : T.Span) : x.enc = [PV.int IntKind.i64 x.frm,PV.int IntKind.i64 x.to] := rfl
def T.Span.ok (x : T.Span) : Prop := inI x.frm ∧ inI x.to ∧ True
structure T.qd where
 span : T.Span
 text : Bytes
 deriving Inhabited,DecidableEq
def T.qd.enc (x : T.qd) : List PV :=
 [PV.int IntKind.i64 x.span.frm,PV.int IntKind.i64 x.span.to,PV.str x.text]
theorem T.qd.qf (x : T.qd) : x.enc = [PV.int IntKind.i64 x.span.frm,PV.int IntKind.i64 x.span.to,PV.str x.text] := rfl
def T.qd.ok (x : T.qd) : Prop := T.Span.ok x.span ∧ jc x.text ∧ True
structure T.Sel where
 anchor : Int
 head : Int
 deriving Inhabited,DecidableEq
def T.Sel.enc (x : T.Sel) : List PV :=
 [PV.int IntKind.i64 x.anchor,PV.int IntKind.i64 x.head]
theorem T.Sel.qf (x : T.Sel) : x.enc = [PV.int IntKind.i64 x.anchor,PV.int IntKind.i64 x.head] := rfl
def T.Sel.ok (x : T.Sel) : Prop := inI x.anchor ∧ inI x.head ∧ True
structure T.Op where
 kind : Int
 name : Bytes
 text : Bytes
 n : Int
 extend : Bool
 edits : (Sl T.qd)
 sels : (Sl T.Sel)
 deriving Inhabited,DecidableEq
def T.Op.enc (x : T.Op) : List PV :=
 [PV.int IntKind.i64 x.kind,PV.str x.name,PV.str x.text,PV.int IntKind.i64 x.n,PV.bool x.extend,PV.sl x.edits.nil (szc 3 x.edits.l) (List.map T.qd.enc x.edits.l),PV.sl x.sels.nil (szc 2 x.sels.l) (List.map T.Sel.enc x.sels.l)]
theorem T.Op.qf (x : T.Op) : x.enc = [PV.int IntKind.i64 x.kind,PV.str x.name,PV.str x.text,PV.int IntKind.i64 x.n,PV.bool x.extend,PV.sl x.edits.nil (szc 3 x.edits.l) (List.map T.qd.enc x.edits.l),PV.sl x.sels.nil (szc 2 x.sels.l) (List.map T.Sel.enc x.sels.l)] := rfl
def T.Op.ok (x : T.Op) : Prop := inI x.kind ∧ jc x.name ∧ jc x.text ∧ inI x.n ∧ jd x.extend ∧ (xh T.qd.ok) x.edits ∧ (xh T.Sel.ok) x.sels ∧ True
structure T.yh where
 b : (Sl UInt8)
 at_ : Int
 deriving Inhabited,DecidableEq
def T.yh.enc (x : T.yh) : List PV :=
 [PV.sl x.b.nil (szc 1 x.b.l) (List.map qo x.b.l),PV.int IntKind.i64 x.at_]
theorem T.yh.qf (x : T.yh) : x.enc = [PV.sl x.b.nil (szc 1 x.b.l) (List.map qo x.b.l),PV.int IntKind.i64 x.at_] := rfl
def T.yh.ok (x : T.yh) : Prop := (xh jd) x.b ∧ inI x.at_ ∧ True
structure T.qb where
 place : T.yh
 ok_ : Bool
 deriving Inhabited,DecidableEq
def T.qb.enc (x : T.qb) : List PV :=
 [PV.sl x.place.b.nil (szc 1 x.place.b.l) (List.map qo x.place.b.l),PV.int IntKind.i64 x.place.at_,PV.bool x.ok_]
theorem T.qb.qf (x : T.qb) : x.enc = [PV.sl x.place.b.nil (szc 1 x.place.b.l) (List.map qo x.place.b.l),PV.int IntKind.i64 x.place.at_,PV.bool x.ok_] := rfl
def T.qb.ok (x : T.qb) : Prop := T.yh.ok x.place ∧ jd x.ok_ ∧ True
structure T.Row where
 frm : Bytes
 to : Bytes
 deriving Inhabited,DecidableEq
def T.Row.enc (x : T.Row) : List PV :=
 [PV.str x.frm,PV.str x.to]
theorem T.Row.qf (x : T.Row) : x.enc = [PV.str x.frm,PV.str x.to] := rfl
def T.Row.ok (x : T.Row) : Prop := jc x.frm ∧ jc x.to ∧ True
structure T.Rx where
 kind : Int
 char : Bytes
 not : Bool
 rows : (Sl T.Row)
 min : Int
 max : Int
 lazy : Bool
 kids : (Sl T.Rx)
 deriving Inhabited
mutual
def T.Rx.enc : T.Rx → List PV
 | ⟨x0,x1,x2,x3,x4,x5,x6,x7⟩ => [PV.int IntKind.i64 x0,PV.str x1,PV.bool x2,PV.sl x3.nil (szc 2 x3.l) (List.map T.Row.enc x3.l),PV.int IntKind.i64 x4,PV.int IntKind.i64 x5,PV.bool x6,T.Rx.encS x7]
def T.Rx.encS : Sl T.Rx → PV
 | ⟨b,l⟩ => .sl b (szc 8 l) (T.Rx.jy l)
def T.Rx.jy : List T.Rx → List (List PV)
 | [] => []
 | x :: r => x.enc :: T.Rx.jy r
end
theorem T.Rx.q06 : ∀ l : List T.Rx,T.Rx.jy l = l.map T.Rx.enc
 | [] => rfl
 | x :: r => by simp [T.Rx.jy,T.Rx.q06 r]
theorem T.Rx.q49 (s : Sl T.Rx) : T.Rx.encS s = .sl s.nil (szc 8 s.l) (s.l.map T.Rx.enc) := by cases s; simp [T.Rx.encS,T.Rx.q06]
theorem T.Rx.qf (x : T.Rx) : x.enc = [PV.int IntKind.i64 x.kind,PV.str x.char,PV.bool x.not,PV.sl x.rows.nil (szc 2 x.rows.l) (List.map T.Row.enc x.rows.l),PV.int IntKind.i64 x.min,PV.int IntKind.i64 x.max,PV.bool x.lazy,PV.sl x.kids.nil (szc 8 x.kids.l) (List.map T.Rx.enc x.kids.l)] := by cases x; simp [T.Rx.enc,T.Rx.q49]
mutual
def T.Rx.ok : T.Rx → Prop
 | ⟨x0,x1,x2,x3,x4,x5,x6,x7⟩ => inI x0 ∧ jc x1 ∧ jd x2 ∧ (xh T.Row.ok) x3 ∧ inI x4 ∧ inI x5 ∧ jd x6 ∧ T.Rx.okS x7 ∧ True
def T.Rx.okS : Sl T.Rx → Prop
 | ⟨b,l⟩ => (l.length ≤ maxLen ∧ (b = true → l = [])) ∧ T.Rx.okL l
def T.Rx.okL : List T.Rx → Prop
 | [] => True
 | x :: r => x.ok ∧ T.Rx.okL r
end
structure T.Fmt where
 kind : Int
 n : Int
 cas : Int
 thn : Bytes
 els : Bytes
 deriving Inhabited,DecidableEq
def T.Fmt.enc (x : T.Fmt) : List PV :=
 [PV.int IntKind.i64 x.kind,PV.int IntKind.i64 x.n,PV.int IntKind.i64 x.cas,PV.str x.thn,PV.str x.els]
theorem T.Fmt.qf (x : T.Fmt) : x.enc = [PV.int IntKind.i64 x.kind,PV.int IntKind.i64 x.n,PV.int IntKind.i64 x.cas,PV.str x.thn,PV.str x.els] := rfl
def T.Fmt.ok (x : T.Fmt) : Prop := inI x.kind ∧ inI x.n ∧ inI x.cas ∧ jc x.thn ∧ jc x.els ∧ True
structure T.Form where
 rx : T.Rx
 fmts : (Sl T.Fmt)
 fold : Bool
 all : Bool
 deriving Inhabited
def T.Form.enc (x : T.Form) : List PV :=
 [PV.int IntKind.i64 x.rx.kind,PV.str x.rx.char,PV.bool x.rx.not,PV.sl x.rx.rows.nil (szc 2 x.rx.rows.l) (List.map T.Row.enc x.rx.rows.l),PV.int IntKind.i64 x.rx.min,PV.int IntKind.i64 x.rx.max,PV.bool x.rx.lazy,PV.sl x.rx.kids.nil (szc 8 x.rx.kids.l) (List.map T.Rx.enc x.rx.kids.l),PV.sl x.fmts.nil (szc 5 x.fmts.l) (List.map T.Fmt.enc x.fmts.l),PV.bool x.fold,PV.bool x.all]
theorem T.Form.qf (x : T.Form) : x.enc = [PV.int IntKind.i64 x.rx.kind,PV.str x.rx.char,PV.bool x.rx.not,PV.sl x.rx.rows.nil (szc 2 x.rx.rows.l) (List.map T.Row.enc x.rx.rows.l),PV.int IntKind.i64 x.rx.min,PV.int IntKind.i64 x.rx.max,PV.bool x.rx.lazy,PV.sl x.rx.kids.nil (szc 8 x.rx.kids.l) (List.map T.Rx.enc x.rx.kids.l),PV.sl x.fmts.nil (szc 5 x.fmts.l) (List.map T.Fmt.enc x.fmts.l),PV.bool x.fold,PV.bool x.all] := rfl
def T.Form.ok (x : T.Form) : Prop := T.Rx.ok x.rx ∧ (xh T.Fmt.ok) x.fmts ∧ jd x.fold ∧ jd x.all ∧ True
structure T.Stop where
 span : T.Span
 n : Int
 up : Int
 first : Bool
 turned : Bool
 form : T.Form
 opts : (Sl Bytes)
 deriving Inhabited
def T.Stop.enc (x : T.Stop) : List PV :=
 [PV.int IntKind.i64 x.span.frm,PV.int IntKind.i64 x.span.to,PV.int IntKind.i64 x.n,PV.int IntKind.i64 x.up,PV.bool x.first,PV.bool x.turned,PV.int IntKind.i64 x.form.rx.kind,PV.str x.form.rx.char,PV.bool x.form.rx.not,PV.sl x.form.rx.rows.nil (szc 2 x.form.rx.rows.l) (List.map T.Row.enc x.form.rx.rows.l),PV.int IntKind.i64 x.form.rx.min,PV.int IntKind.i64 x.form.rx.max,PV.bool x.form.rx.lazy,PV.sl x.form.rx.kids.nil (szc 8 x.form.rx.kids.l) (List.map T.Rx.enc x.form.rx.kids.l),PV.sl x.form.fmts.nil (szc 5 x.form.fmts.l) (List.map T.Fmt.enc x.form.fmts.l),PV.bool x.form.fold,PV.bool x.form.all,PV.sl x.opts.nil (szc 1 x.opts.l) (List.map jo x.opts.l)]
theorem T.Stop.qf (x : T.Stop) : x.enc = [PV.int IntKind.i64 x.span.frm,PV.int IntKind.i64 x.span.to,PV.int IntKind.i64 x.n,PV.int IntKind.i64 x.up,PV.bool x.first,PV.bool x.turned,PV.int IntKind.i64 x.form.rx.kind,PV.str x.form.rx.char,PV.bool x.form.rx.not,PV.sl x.form.rx.rows.nil (szc 2 x.form.rx.rows.l) (List.map T.Row.enc x.form.rx.rows.l),PV.int IntKind.i64 x.form.rx.min,PV.int IntKind.i64 x.form.rx.max,PV.bool x.form.rx.lazy,PV.sl x.form.rx.kids.nil (szc 8 x.form.rx.kids.l) (List.map T.Rx.enc x.form.rx.kids.l),PV.sl x.form.fmts.nil (szc 5 x.form.fmts.l) (List.map T.Fmt.enc x.form.fmts.l),PV.bool x.form.fold,PV.bool x.form.all,PV.sl x.opts.nil (szc 1 x.opts.l) (List.map jo x.opts.l)] := rfl
def T.Stop.ok (x : T.Stop) : Prop := T.Span.ok x.span ∧ inI x.n ∧ inI x.up ∧ jd x.first ∧ jd x.turned ∧ T.Form.ok x.form ∧ (xh jc) x.opts ∧ True
structure T.uj where
 span : T.Span
 stops : (Sl T.Stop)
 deriving Inhabited
def T.uj.enc (x : T.uj) : List PV :=
 [PV.int IntKind.i64 x.span.frm,PV.int IntKind.i64 x.span.to,PV.sl x.stops.nil (szc 18 x.stops.l) (List.map T.Stop.enc x.stops.l)]
theorem T.uj.qf (x : T.uj) : x.enc = [PV.int IntKind.i64 x.span.frm,PV.int IntKind.i64 x.span.to,PV.sl x.stops.nil (szc 18 x.stops.l) (List.map T.Stop.enc x.stops.l)] := rfl
def T.uj.ok (x : T.uj) : Prop := T.Span.ok x.span ∧ (xh T.Stop.ok) x.stops ∧ True
structure T.ui where
 cur : Int
 insts : (Sl T.uj)
 deriving Inhabited
def T.ui.enc (x : T.ui) : List PV :=
 [PV.int IntKind.i64 x.cur,PV.sl x.insts.nil (szc 3 x.insts.l) (List.map T.uj.enc x.insts.l)]
theorem T.ui.qf (x : T.ui) : x.enc = [PV.int IntKind.i64 x.cur,PV.sl x.insts.nil (szc 3 x.insts.l) (List.map T.uj.enc x.insts.l)] := rfl
def T.ui.ok (x : T.ui) : Prop := inI x.cur ∧ (xh T.uj.ok) x.insts ∧ True
structure T.State where
 text : Bytes
 sels : (Sl T.Sel)
 sessions : (Sl T.ui)
 deriving Inhabited
def T.State.enc (x : T.State) : List PV :=
 [PV.str x.text,PV.sl x.sels.nil (szc 2 x.sels.l) (List.map T.Sel.enc x.sels.l),PV.sl x.sessions.nil (szc 2 x.sessions.l) (List.map T.ui.enc x.sessions.l)]
theorem T.State.qf (x : T.State) : x.enc = [PV.str x.text,PV.sl x.sels.nil (szc 2 x.sels.l) (List.map T.Sel.enc x.sels.l),PV.sl x.sessions.nil (szc 2 x.sessions.l) (List.map T.ui.enc x.sessions.l)] := rfl
def T.State.ok (x : T.State) : Prop := jc x.text ∧ (xh T.Sel.ok) x.sels ∧ (xh T.ui.ok) x.sessions ∧ True
structure T.q3h where
 name : Bytes
 value : Bytes
 deriving Inhabited,DecidableEq
def T.q3h.enc (x : T.q3h) : List PV :=
 [PV.str x.name,PV.str x.value]
theorem T.q3h.qf (x : T.q3h) : x.enc = [PV.str x.name,PV.str x.value] := rfl
def T.q3h.ok (x : T.q3h) : Prop := jc x.name ∧ jc x.value ∧ True
structure T.q2t where
 nums : (Sl Int)
 told : Int
 last : Int
 deriving Inhabited,DecidableEq
def T.q2t.enc (x : T.q2t) : List PV :=
 [PV.sl x.nums.nil (szc 1 x.nums.l) (List.map (kE IntKind.u32) x.nums.l),PV.int IntKind.i64 x.told,PV.int IntKind.u32 x.last]
theorem T.q2t.qf (x : T.q2t) : x.enc = [PV.sl x.nums.nil (szc 1 x.nums.l) (List.map (kE IntKind.u32) x.nums.l),PV.int IntKind.i64 x.told,PV.int IntKind.u32 x.last] := rfl
def T.q2t.ok (x : T.q2t) : Prop := (xh inU) x.nums ∧ inI x.told ∧ inU x.last ∧ True
structure T.q31 where
 most : Int
 behind : (Sl T.State)
 ahead : (Sl T.State)
 deriving Inhabited
def T.q31.enc (x : T.q31) : List PV :=
 [PV.int IntKind.i64 x.most,PV.sl x.behind.nil (szc 3 x.behind.l) (List.map T.State.enc x.behind.l),PV.sl x.ahead.nil (szc 3 x.ahead.l) (List.map T.State.enc x.ahead.l)]
theorem T.q31.qf (x : T.q31) : x.enc = [PV.int IntKind.i64 x.most,PV.sl x.behind.nil (szc 3 x.behind.l) (List.map T.State.enc x.behind.l),PV.sl x.ahead.nil (szc 3 x.ahead.l) (List.map T.State.enc x.ahead.l)] := rfl
def T.q31.ok (x : T.q31) : Prop := inI x.most ∧ (xh T.State.ok) x.behind ∧ (xh T.State.ok) x.ahead ∧ True
structure T.q3e where
 s : Bytes
 at_ : Int
 deriving Inhabited,DecidableEq
def T.q3e.enc (x : T.q3e) : List PV :=
 [PV.str x.s,PV.int IntKind.i64 x.at_]
theorem T.q3e.qf (x : T.q3e) : x.enc = [PV.str x.s,PV.int IntKind.i64 x.at_] := rfl
def T.q3e.ok (x : T.q3e) : Prop := jc x.s ∧ inI x.at_ ∧ True
structure T.q3a where
 bytes : Int
 breaks : Int
 runes : Int
 units : Int
 deriving Inhabited,DecidableEq
def T.q3a.enc (x : T.q3a) : List PV :=
 [PV.int IntKind.i64 x.bytes,PV.int IntKind.i64 x.breaks,PV.int IntKind.i64 x.runes,PV.int IntKind.i64 x.units]
theorem T.q3a.qf (x : T.q3a) : x.enc = [PV.int IntKind.i64 x.bytes,PV.int IntKind.i64 x.breaks,PV.int IntKind.i64 x.runes,PV.int IntKind.i64 x.units] := rfl
def T.q3a.ok (x : T.q3a) : Prop := inI x.bytes ∧ inI x.breaks ∧ inI x.runes ∧ inI x.units ∧ True
structure T.mf where
 id : Int
 held : Bool
 deriving Inhabited,DecidableEq
def T.mf.enc (x : T.mf) : List PV :=
 [PV.int IntKind.i64 x.id,PV.bool x.held]
theorem T.mf.qf (x : T.mf) : x.enc = [PV.int IntKind.i64 x.id,PV.bool x.held] := rfl
def T.mf.ok (x : T.mf) : Prop := inI x.id ∧ jd x.held ∧ True
structure T.mi where
 session : T.ui
 marks : (Sl (Sl T.mf))
 deriving Inhabited
def T.mi.enc (x : T.mi) : List PV :=
 [PV.int IntKind.i64 x.session.cur,PV.sl x.session.insts.nil (szc 3 x.session.insts.l) (List.map T.uj.enc x.session.insts.l),PV.sl x.marks.nil (szc 1 x.marks.l) (List.map (slE 2 T.mf.enc) x.marks.l)]
theorem T.mi.qf (x : T.mi) : x.enc = [PV.int IntKind.i64 x.session.cur,PV.sl x.session.insts.nil (szc 3 x.session.insts.l) (List.map T.uj.enc x.session.insts.l),PV.sl x.marks.nil (szc 1 x.marks.l) (List.map (slE 2 T.mf.enc) x.marks.l)] := rfl
def T.mi.ok (x : T.mi) : Prop := T.ui.ok x.session ∧ (xh (xh T.mf.ok)) x.marks ∧ True
structure T.q3c where
 text : Bytes
 sels : (Sl T.Sel)
 sessions : (Sl T.mi)
 deriving Inhabited
def T.q3c.enc (x : T.q3c) : List PV :=
 [PV.str x.text,PV.sl x.sels.nil (szc 2 x.sels.l) (List.map T.Sel.enc x.sels.l),PV.sl x.sessions.nil (szc 3 x.sessions.l) (List.map T.mi.enc x.sessions.l)]
theorem T.q3c.qf (x : T.q3c) : x.enc = [PV.str x.text,PV.sl x.sels.nil (szc 2 x.sels.l) (List.map T.Sel.enc x.sels.l),PV.sl x.sessions.nil (szc 3 x.sessions.l) (List.map T.mi.enc x.sessions.l)] := rfl
def T.q3c.ok (x : T.q3c) : Prop := jc x.text ∧ (xh T.Sel.ok) x.sels ∧ (xh T.mi.ok) x.sessions ∧ True
structure T.z8 where
 kind : Int
 text : Bytes
 n : Int
 has : Bool
 turned : Bool
 form : T.Form
 opts : (Sl Bytes)
 kids : (Sl T.z8)
 deriving Inhabited
mutual
def T.z8.enc : T.z8 → List PV
 | ⟨x0,x1,x2,x3,x4,x5,x6,x7⟩ => [PV.int IntKind.i64 x0,PV.str x1,PV.int IntKind.i64 x2,PV.bool x3,PV.bool x4,PV.int IntKind.i64 x5.rx.kind,PV.str x5.rx.char,PV.bool x5.rx.not,PV.sl x5.rx.rows.nil (szc 2 x5.rx.rows.l) (List.map T.Row.enc x5.rx.rows.l),PV.int IntKind.i64 x5.rx.min,PV.int IntKind.i64 x5.rx.max,PV.bool x5.rx.lazy,PV.sl x5.rx.kids.nil (szc 8 x5.rx.kids.l) (List.map T.Rx.enc x5.rx.kids.l),PV.sl x5.fmts.nil (szc 5 x5.fmts.l) (List.map T.Fmt.enc x5.fmts.l),PV.bool x5.fold,PV.bool x5.all,PV.sl x6.nil (szc 1 x6.l) (List.map jo x6.l),T.z8.encS x7]
def T.z8.encS : Sl T.z8 → PV
 | ⟨b,l⟩ => .sl b (szc 18 l) (T.z8.jy l)
def T.z8.jy : List T.z8 → List (List PV)
 | [] => []
 | x :: r => x.enc :: T.z8.jy r
end
theorem T.z8.q06 : ∀ l : List T.z8,T.z8.jy l = l.map T.z8.enc
 | [] => rfl
 | x :: r => by simp [T.z8.jy,T.z8.q06 r]
theorem T.z8.q49 (s : Sl T.z8) : T.z8.encS s = .sl s.nil (szc 18 s.l) (s.l.map T.z8.enc) := by cases s; simp [T.z8.encS,T.z8.q06]
theorem T.z8.qf (x : T.z8) : x.enc = [PV.int IntKind.i64 x.kind,PV.str x.text,PV.int IntKind.i64 x.n,PV.bool x.has,PV.bool x.turned,PV.int IntKind.i64 x.form.rx.kind,PV.str x.form.rx.char,PV.bool x.form.rx.not,PV.sl x.form.rx.rows.nil (szc 2 x.form.rx.rows.l) (List.map T.Row.enc x.form.rx.rows.l),PV.int IntKind.i64 x.form.rx.min,PV.int IntKind.i64 x.form.rx.max,PV.bool x.form.rx.lazy,PV.sl x.form.rx.kids.nil (szc 8 x.form.rx.kids.l) (List.map T.Rx.enc x.form.rx.kids.l),PV.sl x.form.fmts.nil (szc 5 x.form.fmts.l) (List.map T.Fmt.enc x.form.fmts.l),PV.bool x.form.fold,PV.bool x.form.all,PV.sl x.opts.nil (szc 1 x.opts.l) (List.map jo x.opts.l),PV.sl x.kids.nil (szc 18 x.kids.l) (List.map T.z8.enc x.kids.l)] := by cases x; simp [T.z8.enc,T.z8.q49]
mutual
def T.z8.ok : T.z8 → Prop
 | ⟨x0,x1,x2,x3,x4,x5,x6,x7⟩ => inI x0 ∧ jc x1 ∧ inI x2 ∧ jd x3 ∧ jd x4 ∧ T.Form.ok x5 ∧ (xh jc) x6 ∧ T.z8.okS x7 ∧ True
def T.z8.okS : Sl T.z8 → Prop
 | ⟨b,l⟩ => (l.length ≤ maxLen ∧ (b = true → l = [])) ∧ T.z8.okL l
def T.z8.okL : List T.z8 → Prop
 | [] => True
 | x :: r => x.ok ∧ T.z8.okL r
end
structure T.Range where
 span : T.Span
 fromRight : Bool
 toRight : Bool
 parent : Int
 deriving Inhabited,DecidableEq
def T.Range.enc (x : T.Range) : List PV :=
 [PV.int IntKind.i64 x.span.frm,PV.int IntKind.i64 x.span.to,PV.bool x.fromRight,PV.bool x.toRight,PV.int IntKind.i64 x.parent]
theorem T.Range.qf (x : T.Range) : x.enc = [PV.int IntKind.i64 x.span.frm,PV.int IntKind.i64 x.span.to,PV.bool x.fromRight,PV.bool x.toRight,PV.int IntKind.i64 x.parent] := rfl
def T.Range.ok (x : T.Range) : Prop := T.Span.ok x.span ∧ jd x.fromRight ∧ jd x.toRight ∧ inI x.parent ∧ True
structure T.q3g where
 part : T.z8
 end_ : Int
 ok_ : Bool
 deriving Inhabited
def T.q3g.enc (x : T.q3g) : List PV :=
 [PV.int IntKind.i64 x.part.kind,PV.str x.part.text,PV.int IntKind.i64 x.part.n,PV.bool x.part.has,PV.bool x.part.turned,PV.int IntKind.i64 x.part.form.rx.kind,PV.str x.part.form.rx.char,PV.bool x.part.form.rx.not,PV.sl x.part.form.rx.rows.nil (szc 2 x.part.form.rx.rows.l) (List.map T.Row.enc x.part.form.rx.rows.l),PV.int IntKind.i64 x.part.form.rx.min,PV.int IntKind.i64 x.part.form.rx.max,PV.bool x.part.form.rx.lazy,PV.sl x.part.form.rx.kids.nil (szc 8 x.part.form.rx.kids.l) (List.map T.Rx.enc x.part.form.rx.kids.l),PV.sl x.part.form.fmts.nil (szc 5 x.part.form.fmts.l) (List.map T.Fmt.enc x.part.form.fmts.l),PV.bool x.part.form.fold,PV.bool x.part.form.all,PV.sl x.part.opts.nil (szc 1 x.part.opts.l) (List.map jo x.part.opts.l),PV.sl x.part.kids.nil (szc 18 x.part.kids.l) (List.map T.z8.enc x.part.kids.l),PV.int IntKind.i64 x.end_,PV.bool x.ok_]
theorem T.q3g.qf (x : T.q3g) : x.enc = [PV.int IntKind.i64 x.part.kind,PV.str x.part.text,PV.int IntKind.i64 x.part.n,PV.bool x.part.has,PV.bool x.part.turned,PV.int IntKind.i64 x.part.form.rx.kind,PV.str x.part.form.rx.char,PV.bool x.part.form.rx.not,PV.sl x.part.form.rx.rows.nil (szc 2 x.part.form.rx.rows.l) (List.map T.Row.enc x.part.form.rx.rows.l),PV.int IntKind.i64 x.part.form.rx.min,PV.int IntKind.i64 x.part.form.rx.max,PV.bool x.part.form.rx.lazy,PV.sl x.part.form.rx.kids.nil (szc 8 x.part.form.rx.kids.l) (List.map T.Rx.enc x.part.form.rx.kids.l),PV.sl x.part.form.fmts.nil (szc 5 x.part.form.fmts.l) (List.map T.Fmt.enc x.part.form.fmts.l),PV.bool x.part.form.fold,PV.bool x.part.form.all,PV.sl x.part.opts.nil (szc 1 x.part.opts.l) (List.map jo x.part.opts.l),PV.sl x.part.kids.nil (szc 18 x.part.kids.l) (List.map T.z8.enc x.part.kids.l),PV.int IntKind.i64 x.end_,PV.bool x.ok_] := rfl
def T.q3g.ok (x : T.q3g) : Prop := T.z8.ok x.part ∧ inI x.end_ ∧ jd x.ok_ ∧ True
structure T.q3l where
 e : T.qd
 does : (Sl (Sl Int))
 inst : Int
 place : Int
 deriving Inhabited,DecidableEq
def T.q3l.enc (x : T.q3l) : List PV :=
 [PV.int IntKind.i64 x.e.span.frm,PV.int IntKind.i64 x.e.span.to,PV.str x.e.text,PV.sl x.does.nil (szc 1 x.does.l) (List.map (slE 1 q1s) x.does.l),PV.int IntKind.i64 x.inst,PV.int IntKind.i64 x.place]
theorem T.q3l.qf (x : T.q3l) : x.enc = [PV.int IntKind.i64 x.e.span.frm,PV.int IntKind.i64 x.e.span.to,PV.str x.e.text,PV.sl x.does.nil (szc 1 x.does.l) (List.map (slE 1 q1s) x.does.l),PV.int IntKind.i64 x.inst,PV.int IntKind.i64 x.place] := rfl
def T.q3l.ok (x : T.q3l) : Prop := T.qd.ok x.e ∧ (xh (xh inI)) x.does ∧ inI x.inst ∧ inI x.place ∧ True
structure T.q2u where
 span : T.Span
 parts : (Sl T.Span)
 deriving Inhabited,DecidableEq
def T.q2u.enc (x : T.q2u) : List PV :=
 [PV.int IntKind.i64 x.span.frm,PV.int IntKind.i64 x.span.to,PV.sl x.parts.nil (szc 2 x.parts.l) (List.map T.Span.enc x.parts.l)]
theorem T.q2u.qf (x : T.q2u) : x.enc = [PV.int IntKind.i64 x.span.frm,PV.int IntKind.i64 x.span.to,PV.sl x.parts.nil (szc 2 x.parts.l) (List.map T.Span.enc x.parts.l)] := rfl
def T.q2u.ok (x : T.q2u) : Prop := T.Span.ok x.span ∧ (xh T.Span.ok) x.parts ∧ True
structure T.zf where
 text : Bytes
 adapt : Bool
 stop : Bool
 turned : Bool
 form : T.Form
 n : Int
 first : Bool
 opts : (Sl Bytes)
 kids : (Sl T.zf)
 size : Int
 deriving Inhabited
mutual
def T.zf.enc : T.zf → List PV
 | ⟨x0,x1,x2,x3,x4,x5,x6,x7,x8,x9⟩ => [PV.str x0,PV.bool x1,PV.bool x2,PV.bool x3,PV.int IntKind.i64 x4.rx.kind,PV.str x4.rx.char,PV.bool x4.rx.not,PV.sl x4.rx.rows.nil (szc 2 x4.rx.rows.l) (List.map T.Row.enc x4.rx.rows.l),PV.int IntKind.i64 x4.rx.min,PV.int IntKind.i64 x4.rx.max,PV.bool x4.rx.lazy,PV.sl x4.rx.kids.nil (szc 8 x4.rx.kids.l) (List.map T.Rx.enc x4.rx.kids.l),PV.sl x4.fmts.nil (szc 5 x4.fmts.l) (List.map T.Fmt.enc x4.fmts.l),PV.bool x4.fold,PV.bool x4.all,PV.int IntKind.i64 x5,PV.bool x6,PV.sl x7.nil (szc 1 x7.l) (List.map jo x7.l),T.zf.encS x8,PV.int IntKind.i64 x9]
def T.zf.encS : Sl T.zf → PV
 | ⟨b,l⟩ => .sl b (szc 20 l) (T.zf.jy l)
def T.zf.jy : List T.zf → List (List PV)
 | [] => []
 | x :: r => x.enc :: T.zf.jy r
end
theorem T.zf.q06 : ∀ l : List T.zf,T.zf.jy l = l.map T.zf.enc
 | [] => rfl
 | x :: r => by simp [T.zf.jy,T.zf.q06 r]
theorem T.zf.q49 (s : Sl T.zf) : T.zf.encS s = .sl s.nil (szc 20 s.l) (s.l.map T.zf.enc) := by cases s; simp [T.zf.encS,T.zf.q06]
theorem T.zf.qf (x : T.zf) : x.enc = [PV.str x.text,PV.bool x.adapt,PV.bool x.stop,PV.bool x.turned,PV.int IntKind.i64 x.form.rx.kind,PV.str x.form.rx.char,PV.bool x.form.rx.not,PV.sl x.form.rx.rows.nil (szc 2 x.form.rx.rows.l) (List.map T.Row.enc x.form.rx.rows.l),PV.int IntKind.i64 x.form.rx.min,PV.int IntKind.i64 x.form.rx.max,PV.bool x.form.rx.lazy,PV.sl x.form.rx.kids.nil (szc 8 x.form.rx.kids.l) (List.map T.Rx.enc x.form.rx.kids.l),PV.sl x.form.fmts.nil (szc 5 x.form.fmts.l) (List.map T.Fmt.enc x.form.fmts.l),PV.bool x.form.fold,PV.bool x.form.all,PV.int IntKind.i64 x.n,PV.bool x.first,PV.sl x.opts.nil (szc 1 x.opts.l) (List.map jo x.opts.l),PV.sl x.kids.nil (szc 20 x.kids.l) (List.map T.zf.enc x.kids.l),PV.int IntKind.i64 x.size] := by cases x; simp [T.zf.enc,T.zf.q49]
mutual
def T.zf.ok : T.zf → Prop
 | ⟨x0,x1,x2,x3,x4,x5,x6,x7,x8,x9⟩ => jc x0 ∧ jd x1 ∧ jd x2 ∧ jd x3 ∧ T.Form.ok x4 ∧ inI x5 ∧ jd x6 ∧ (xh jc) x7 ∧ T.zf.okS x8 ∧ inI x9 ∧ True
def T.zf.okS : Sl T.zf → Prop
 | ⟨b,l⟩ => (l.length ≤ maxLen ∧ (b = true → l = [])) ∧ T.zf.okL l
def T.zf.okL : List T.zf → Prop
 | [] => True
 | x :: r => x.ok ∧ T.zf.okL r
end
structure T.za where
 rx : T.Rx
 kids : (Sl T.za)
 lo : Int
 hi : Int
 deriving Inhabited
mutual
def T.za.enc : T.za → List PV
 | ⟨x0,x1,x2,x3⟩ => [PV.int IntKind.i64 x0.kind,PV.str x0.char,PV.bool x0.not,PV.sl x0.rows.nil (szc 2 x0.rows.l) (List.map T.Row.enc x0.rows.l),PV.int IntKind.i64 x0.min,PV.int IntKind.i64 x0.max,PV.bool x0.lazy,PV.sl x0.kids.nil (szc 8 x0.kids.l) (List.map T.Rx.enc x0.kids.l),T.za.encS x1,PV.int IntKind.i64 x2,PV.int IntKind.i64 x3]
def T.za.encS : Sl T.za → PV
 | ⟨b,l⟩ => .sl b (szc 11 l) (T.za.jy l)
def T.za.jy : List T.za → List (List PV)
 | [] => []
 | x :: r => x.enc :: T.za.jy r
end
theorem T.za.q06 : ∀ l : List T.za,T.za.jy l = l.map T.za.enc
 | [] => rfl
 | x :: r => by simp [T.za.jy,T.za.q06 r]
theorem T.za.q49 (s : Sl T.za) : T.za.encS s = .sl s.nil (szc 11 s.l) (s.l.map T.za.enc) := by cases s; simp [T.za.encS,T.za.q06]
theorem T.za.qf (x : T.za) : x.enc = [PV.int IntKind.i64 x.rx.kind,PV.str x.rx.char,PV.bool x.rx.not,PV.sl x.rx.rows.nil (szc 2 x.rx.rows.l) (List.map T.Row.enc x.rx.rows.l),PV.int IntKind.i64 x.rx.min,PV.int IntKind.i64 x.rx.max,PV.bool x.rx.lazy,PV.sl x.rx.kids.nil (szc 8 x.rx.kids.l) (List.map T.Rx.enc x.rx.kids.l),PV.sl x.kids.nil (szc 11 x.kids.l) (List.map T.za.enc x.kids.l),PV.int IntKind.i64 x.lo,PV.int IntKind.i64 x.hi] := by cases x; simp [T.za.enc,T.za.q49]
mutual
def T.za.ok : T.za → Prop
 | ⟨x0,x1,x2,x3⟩ => T.Rx.ok x0 ∧ T.za.okS x1 ∧ inI x2 ∧ inI x3 ∧ True
def T.za.okS : Sl T.za → Prop
 | ⟨b,l⟩ => (l.length ≤ maxLen ∧ (b = true → l = [])) ∧ T.za.okL l
def T.za.okL : List T.za → Prop
 | [] => True
 | x :: r => x.ok ∧ T.za.okL r
end
structure T.q2m where
 top : T.za
 fold : Bool
 chars : (Sl Bytes)
 places : (Sl Int)
 parts : (Sl T.Span)
 fuel : Int
 out : Bool
 deriving Inhabited
def T.q2m.enc (x : T.q2m) : List PV :=
 [PV.int IntKind.i64 x.top.rx.kind,PV.str x.top.rx.char,PV.bool x.top.rx.not,PV.sl x.top.rx.rows.nil (szc 2 x.top.rx.rows.l) (List.map T.Row.enc x.top.rx.rows.l),PV.int IntKind.i64 x.top.rx.min,PV.int IntKind.i64 x.top.rx.max,PV.bool x.top.rx.lazy,PV.sl x.top.rx.kids.nil (szc 8 x.top.rx.kids.l) (List.map T.Rx.enc x.top.rx.kids.l),PV.sl x.top.kids.nil (szc 11 x.top.kids.l) (List.map T.za.enc x.top.kids.l),PV.int IntKind.i64 x.top.lo,PV.int IntKind.i64 x.top.hi,PV.bool x.fold,PV.sl x.chars.nil (szc 1 x.chars.l) (List.map jo x.chars.l),PV.sl x.places.nil (szc 1 x.places.l) (List.map q1s x.places.l),PV.sl x.parts.nil (szc 2 x.parts.l) (List.map T.Span.enc x.parts.l),PV.int IntKind.i64 x.fuel,PV.bool x.out]
theorem T.q2m.qf (x : T.q2m) : x.enc = [PV.int IntKind.i64 x.top.rx.kind,PV.str x.top.rx.char,PV.bool x.top.rx.not,PV.sl x.top.rx.rows.nil (szc 2 x.top.rx.rows.l) (List.map T.Row.enc x.top.rx.rows.l),PV.int IntKind.i64 x.top.rx.min,PV.int IntKind.i64 x.top.rx.max,PV.bool x.top.rx.lazy,PV.sl x.top.rx.kids.nil (szc 8 x.top.rx.kids.l) (List.map T.Rx.enc x.top.rx.kids.l),PV.sl x.top.kids.nil (szc 11 x.top.kids.l) (List.map T.za.enc x.top.kids.l),PV.int IntKind.i64 x.top.lo,PV.int IntKind.i64 x.top.hi,PV.bool x.fold,PV.sl x.chars.nil (szc 1 x.chars.l) (List.map jo x.chars.l),PV.sl x.places.nil (szc 1 x.places.l) (List.map q1s x.places.l),PV.sl x.parts.nil (szc 2 x.parts.l) (List.map T.Span.enc x.parts.l),PV.int IntKind.i64 x.fuel,PV.bool x.out] := rfl
def T.q2m.ok (x : T.q2m) : Prop := T.za.ok x.top ∧ jd x.fold ∧ (xh jc) x.chars ∧ (xh inI) x.places ∧ (xh T.Span.ok) x.parts ∧ inI x.fuel ∧ jd x.out ∧ True
structure T.q38 where
 text : Bytes
 deriving Inhabited,DecidableEq
def T.q38.enc (x : T.q38) : List PV :=
 [PV.str x.text]
theorem T.q38.qf (x : T.q38) : x.enc = [PV.str x.text] := rfl
def T.q38.ok (x : T.q38) : Prop := jc x.text ∧ True
structure T.q0t where
 all : (Sl Bytes)
 at_ : Int
 deriving Inhabited,DecidableEq
def T.q0t.enc (x : T.q0t) : List PV :=
 [PV.sl x.all.nil (szc 1 x.all.l) (List.map jo x.all.l),PV.int IntKind.i64 x.at_]
theorem T.q0t.qf (x : T.q0t) : x.enc = [PV.sl x.all.nil (szc 1 x.all.l) (List.map jo x.all.l),PV.int IntKind.i64 x.at_] := rfl
def T.q0t.ok (x : T.q0t) : Prop := (xh jc) x.all ∧ inI x.at_ ∧ True
structure T.q2i where
 place : T.q0t
 deep : Int
 deriving Inhabited,DecidableEq
def T.q2i.enc (x : T.q2i) : List PV :=
 [PV.sl x.place.all.nil (szc 1 x.place.all.l) (List.map jo x.place.all.l),PV.int IntKind.i64 x.place.at_,PV.int IntKind.i64 x.deep]
theorem T.q2i.qf (x : T.q2i) : x.enc = [PV.sl x.place.all.nil (szc 1 x.place.all.l) (List.map jo x.place.all.l),PV.int IntKind.i64 x.place.at_,PV.int IntKind.i64 x.deep] := rfl
def T.q2i.ok (x : T.q2i) : Prop := T.q0t.ok x.place ∧ inI x.deep ∧ True
def q7o (n : Int) : Option Bytes := if -9223372036854775808 ≤ n ∧ n ≤ 9223372036854775807 then some (Go.Lib.itoa n) else none
def aw7 : Option Bool := some true
theorem yc {α : Type} {u0 u1 : Bool} {p q : Option α} {r : α} {P : Prop} (f : u0 = true → u1 = true → p = some r → P) (g : ((u0 = false ∧ Dum) ∨ (u0 = true ∧ u1 = false)) → q = some r → P) (h : (if (u0 && u1) = true then p else q) = some r) : P := by cases u0 <;> cases u1 <;> simp_all [Dum]
theorem qeb {α : Type} {u0 u1 u2 u3 : Bool} {p q : Option α} {r : α} {P : Prop} (f : u0 = true → u1 = true → u2 = true → u3 = true → p = some r → P) (g : ((u0 = false ∧ Dum ∧ Dum ∧ Dum) ∨ (u0 = true ∧ u1 = false ∧ Dum ∧ Dum) ∨ (u0 = true ∧ u1 = true ∧ u2 = false ∧ Dum) ∨ (u0 = true ∧ u1 = true ∧ u2 = true ∧ u3 = false)) → q = some r → P) (h : (if (u0 && (u1 && (u2 && u3))) = true then p else q) = some r) : P := by cases u0 <;> cases u1 <;> cases u2 <;> cases u3 <;> simp_all [Dum]
theorem qae {α : Type} {u0 u1 u2 u3 u4 : Bool} {p q : Option α} {r : α} {P : Prop} (f : u0 = true → u1 = true → u2 = true → u3 = true → u4 = true → p = some r → P) (g : ((u0 = false ∧ Dum ∧ Dum ∧ Dum ∧ Dum) ∨ (u0 = true ∧ u1 = false ∧ Dum ∧ Dum ∧ Dum) ∨ (u0 = true ∧ u1 = true ∧ u2 = false ∧ Dum ∧ Dum) ∨ (u0 = true ∧ u1 = true ∧ u2 = true ∧ u3 = false ∧ Dum) ∨ (u0 = true ∧ u1 = true ∧ u2 = true ∧ u3 = true ∧ u4 = false)) → q = some r → P) (h : (if (u0 && (u1 && (u2 && (u3 && u4)))) = true then p else q) = some r) : P := by cases u0 <;> cases u1 <;> cases u2 <;> cases u3 <;> cases u4 <;> simp_all [Dum]
theorem qgg {α : Type} {u0 u1 : Bool} {p q : Option α} {r : α} {P : Prop} (f : ((u0 = true ∧ Dum) ∨ (u0 = false ∧ u1 = true)) → p = some r → P) (g : u0 = false → u1 = false → q = some r → P) (h : (if (u0 || u1) = true then p else q) = some r) : P := by cases u0 <;> cases u1 <;> simp_all [Dum]
theorem z00 {α : Type} {u0 u1 u2 : Bool} {p q : Option α} {r : α} {P : Prop} (f : ((u0 = true ∧ Dum ∧ Dum) ∨ (u0 = false ∧ u1 = true ∧ Dum) ∨ (u0 = false ∧ u1 = false ∧ u2 = true)) → p = some r → P) (g : u0 = false → u1 = false → u2 = false → q = some r → P) (h : (if (u0 || (u1 || u2)) = true then p else q) = some r) : P := by cases u0 <;> cases u1 <;> cases u2 <;> simp_all [Dum]
theorem zp9 {α : Type} {u0 u1 u2 u3 : Bool} {p q : Option α} {r : α} {P : Prop} (f : ((u0 = true ∧ Dum ∧ Dum ∧ Dum) ∨ (u0 = false ∧ u1 = true ∧ Dum ∧ Dum) ∨ (u0 = false ∧ u1 = false ∧ u2 = true ∧ Dum) ∨ (u0 = false ∧ u1 = false ∧ u2 = false ∧ u3 = true)) → p = some r → P) (g : u0 = false → u1 = false → u2 = false → u3 = false → q = some r → P) (h : (if (u0 || (u1 || (u2 || u3))) = true then p else q) = some r) : P := by cases u0 <;> cases u1 <;> cases u2 <;> cases u3 <;> simp_all [Dum]
theorem qvv {α : Type} {u0 u1 u2 u3 u4 : Bool} {p q : Option α} {r : α} {P : Prop} (f : ((u0 = true ∧ Dum ∧ Dum ∧ Dum ∧ Dum) ∨ (u0 = false ∧ u1 = true ∧ Dum ∧ Dum ∧ Dum) ∨ (u0 = false ∧ u1 = false ∧ u2 = true ∧ Dum ∧ Dum) ∨ (u0 = false ∧ u1 = false ∧ u2 = false ∧ u3 = true ∧ Dum) ∨ (u0 = false ∧ u1 = false ∧ u2 = false ∧ u3 = false ∧ u4 = true)) → p = some r → P) (g : u0 = false → u1 = false → u2 = false → u3 = false → u4 = false → q = some r → P) (h : (if (u0 || (u1 || (u2 || (u3 || u4)))) = true then p else q) = some r) : P := by cases u0 <;> cases u1 <;> cases u2 <;> cases u3 <;> cases u4 <;> simp_all [Dum]
theorem qne (n : Nat) : 0 + n = n := Nat.zero_add n
def en := PLift.up (And.intro (And.intro (And.intro (And.intro (And.intro zbm.down z07.down) (And.intro @qne (And.intro @Int.cast_ofNat_Int @List.append_nil.{0}))) (And.intro (And.intro @List.nil_append.{0} @List.cons_append.{0}) (And.intro @T.Span.qf (And.intro @T.qd.qf @T.Sel.qf)))) (And.intro (And.intro (And.intro @T.Op.qf @T.yh.qf) (And.intro @T.qb.qf (And.intro @T.Row.qf @T.Rx.qf))) (And.intro (And.intro @T.Fmt.qf @T.Form.qf) (And.intro @T.Stop.qf (And.intro @T.uj.qf @T.ui.qf))))) (And.intro (And.intro (And.intro (And.intro @T.State.qf @T.q3h.qf) (And.intro @T.q2t.qf (And.intro @T.q31.qf @T.q3e.qf))) (And.intro (And.intro @T.q3a.qf @T.mf.qf) (And.intro @T.mi.qf (And.intro @T.q3c.qf @T.z8.qf)))) (And.intro (And.intro (And.intro @T.Range.qf @T.q3g.qf) (And.intro @T.q3l.qf (And.intro @T.q2u.qf @T.zf.qf))) (And.intro (And.intro @T.za.qf @T.q2m.qf) (And.intro @T.q38.qf (And.intro @T.q0t.qf @T.q2i.qf))))))
end Go.Proofs.YtaglodpkpggdiaaGreatDoor
