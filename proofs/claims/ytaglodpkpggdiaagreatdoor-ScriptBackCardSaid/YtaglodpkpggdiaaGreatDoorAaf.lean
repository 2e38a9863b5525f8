/-
  Go's structs as Lean's.
-/
import Derived.Lib.ItoaNum
import Derived.Test.YtaglodpkpggdiaaGreatDoorAad
set_option linter.unusedSimpArgs false
set_option linter.unusedVariables false
set_option maxRecDepth 100000
namespace Go.Proofs.YtaglodpkpggdiaaGreatDoor
open Go Go.Gm
structure T.Span where
 frm : Int
 to : Int
 deriving Inhabited,DecidableEq
def T.Span.enc (x : T.Span) : List PV :=
 [PV.int IntKind.i64 x.frm,PV.int IntKind.i64 x.to]
theorem T.Span.qd (x : T.Span) : x.enc = [PV.int IntKind.i64 x.frm,PV.int IntKind.i64 x.to] := rfl
def T.Span.ok (x : T.Span) : Prop := inI x.frm ∧ inI x.to ∧ True
structure T.qb where
 span : T.Span
 text : Bytes
 deriving Inhabited,DecidableEq
def T.qb.enc (x : T.qb) : List PV :=
 [PV.int IntKind.i64 x.span.frm,PV.int IntKind.i64 x.span.to,PV.str x.text]
theorem T.qb.qd (x : T.qb) : x.enc = [PV.int IntKind.i64 x.span.frm,PV.int IntKind.i64 x.span.to,PV.str x.text] := rfl
def T.qb.ok (x : T.qb) : Prop := T.Span.ok x.span ∧ jl x.text ∧ True
structure T.Sel where
 anchor : Int
 head : Int
 deriving Inhabited,DecidableEq
def T.Sel.enc (x : T.Sel) : List PV :=
 [PV.int IntKind.i64 x.anchor,PV.int IntKind.i64 x.head]
theorem T.Sel.qd (x : T.Sel) : x.enc = [PV.int IntKind.i64 x.anchor,PV.int IntKind.i64 x.head] := rfl
def T.Sel.ok (x : T.Sel) : Prop := inI x.anchor ∧ inI x.head ∧ True
structure T.Op where
 kind : Int
 name : Bytes
 text : Bytes
 n : Int
 extend : Bool
 edits : (Sl T.qb)
 sels : (Sl T.Sel)
 deriving Inhabited,DecidableEq
def T.Op.enc (x : T.Op) : List PV :=
 [PV.int IntKind.i64 x.kind,PV.str x.name,PV.str x.text,PV.int IntKind.i64 x.n,PV.bool x.extend,PV.sl x.edits.nil (szc 3 x.edits.l) (List.map T.qb.enc x.edits.l),PV.sl x.sels.nil (szc 2 x.sels.l) (List.map T.Sel.enc x.sels.l)]
theorem T.Op.qd (x : T.Op) : x.enc = [PV.int IntKind.i64 x.kind,PV.str x.name,PV.str x.text,PV.int IntKind.i64 x.n,PV.bool x.extend,PV.sl x.edits.nil (szc 3 x.edits.l) (List.map T.qb.enc x.edits.l),PV.sl x.sels.nil (szc 2 x.sels.l) (List.map T.Sel.enc x.sels.l)] := rfl
def T.Op.ok (x : T.Op) : Prop := inI x.kind ∧ jl x.name ∧ jl x.text ∧ inI x.n ∧ xx x.extend ∧ (zo T.qb.ok) x.edits ∧ (zo T.Sel.ok) x.sels ∧ True
structure T.yw where
 b : (Sl UInt8)
 at_ : Int
 deriving Inhabited,DecidableEq
def T.yw.enc (x : T.yw) : List PV :=
 [PV.sl x.b.nil (szc 1 x.b.l) (List.map qp x.b.l),PV.int IntKind.i64 x.at_]
theorem T.yw.qd (x : T.yw) : x.enc = [PV.sl x.b.nil (szc 1 x.b.l) (List.map qp x.b.l),PV.int IntKind.i64 x.at_] := rfl
def T.yw.ok (x : T.yw) : Prop := (zo xx) x.b ∧ inI x.at_ ∧ True
structure T.qc where
 place : T.yw
 ok_ : Bool
 deriving Inhabited,DecidableEq
def T.qc.enc (x : T.qc) : List PV :=
 [PV.sl x.place.b.nil (szc 1 x.place.b.l) (List.map qp x.place.b.l),PV.int IntKind.i64 x.place.at_,PV.bool x.ok_]
theorem T.qc.qd (x : T.qc) : x.enc = [PV.sl x.place.b.nil (szc 1 x.place.b.l) (List.map qp x.place.b.l),PV.int IntKind.i64 x.place.at_,PV.bool x.ok_] := rfl
def T.qc.ok (x : T.qc) : Prop := T.yw.ok x.place ∧ xx x.ok_ ∧ True
structure T.Row where
 frm : Bytes
 to : Bytes
 deriving Inhabited,DecidableEq
def T.Row.enc (x : T.Row) : List PV :=
 [PV.str x.frm,PV.str x.to]
theorem T.Row.qd (x : T.Row) : x.enc = [PV.str x.frm,PV.str x.to] := rfl
def T.Row.ok (x : T.Row) : Prop := jl x.frm ∧ jl x.to ∧ True
structure T.Rx where
 kind : Int
 char : Bytes
 not : Bool
 rows : (Sl T.Row)
 min : Int
 max : Int
 lazy : Bool
 kids : (Sl T.Rx)
 deriving Inhabited
mutual
def T.Rx.enc : T.Rx → List PV
 | ⟨x0,x1,x2,x3,x4,x5,x6,x7⟩ => [PV.int IntKind.i64 x0,PV.str x1,PV.bool x2,PV.sl x3.nil (szc 2 x3.l) (List.map T.Row.enc x3.l),PV.int IntKind.i64 x4,PV.int IntKind.i64 x5,PV.bool x6,T.Rx.encS x7]
def T.Rx.encS : Sl T.Rx → PV
 | ⟨b,l⟩ => .sl b (szc 8 l) (T.Rx.wo l)
def T.Rx.wo : List T.Rx → List (List PV)
 | [] => []
 | x :: r => x.enc :: T.Rx.wo r
end
theorem T.Rx.q0x : ∀ l : List T.Rx,T.Rx.wo l = l.map T.Rx.enc
 | [] => rfl
 | x :: r => by simp [T.Rx.wo,T.Rx.q0x r]
theorem T.Rx.q4n (s : Sl T.Rx) : T.Rx.encS s = .sl s.nil (szc 8 s.l) (s.l.map T.Rx.enc) := by cases s; simp [T.Rx.encS,T.Rx.q0x]
theorem T.Rx.qd (x : T.Rx) : x.enc = [PV.int IntKind.i64 x.kind,PV.str x.char,PV.bool x.not,PV.sl x.rows.nil (szc 2 x.rows.l) (List.map T.Row.enc x.rows.l),PV.int IntKind.i64 x.min,PV.int IntKind.i64 x.max,PV.bool x.lazy,PV.sl x.kids.nil (szc 8 x.kids.l) (List.map T.Rx.enc x.kids.l)] := by cases x; simp [T.Rx.enc,T.Rx.q4n]
mutual
def T.Rx.ok : T.Rx → Prop
 | ⟨x0,x1,x2,x3,x4,x5,x6,x7⟩ => inI x0 ∧ jl x1 ∧ xx x2 ∧ (zo T.Row.ok) x3 ∧ inI x4 ∧ inI x5 ∧ xx x6 ∧ T.Rx.okS x7 ∧ True
def T.Rx.okS : Sl T.Rx → Prop
 | ⟨b,l⟩ => (l.length ≤ maxLen ∧ (b = true → l = [])) ∧ T.Rx.okL l
def T.Rx.okL : List T.Rx → Prop
 | [] => True
 | x :: r => x.ok ∧ T.Rx.okL r
end
structure T.Fmt where
 kind : Int
 n : Int
 cas : Int
 thn : Bytes
 els : Bytes
 deriving Inhabited,DecidableEq
def T.Fmt.enc (x : T.Fmt) : List PV :=
 [PV.int IntKind.i64 x.kind,PV.int IntKind.i64 x.n,PV.int IntKind.i64 x.cas,PV.str x.thn,PV.str x.els]
theorem T.Fmt.qd (x : T.Fmt) : x.enc = [PV.int IntKind.i64 x.kind,PV.int IntKind.i64 x.n,PV.int IntKind.i64 x.cas,PV.str x.thn,PV.str x.els] := rfl
def T.Fmt.ok (x : T.Fmt) : Prop := inI x.kind ∧ inI x.n ∧ inI x.cas ∧ jl x.thn ∧ jl x.els ∧ True
structure T.Form where
 rx : T.Rx
 fmts : (Sl T.Fmt)
 fold : Bool
 all : Bool
 deriving Inhabited
def T.Form.enc (x : T.Form) : List PV :=
 [PV.int IntKind.i64 x.rx.kind,PV.str x.rx.char,PV.bool x.rx.not,PV.sl x.rx.rows.nil (szc 2 x.rx.rows.l) (List.map T.Row.enc x.rx.rows.l),PV.int IntKind.i64 x.rx.min,PV.int IntKind.i64 x.rx.max,PV.bool x.rx.lazy,PV.sl x.rx.kids.nil (szc 8 x.rx.kids.l) (List.map T.Rx.enc x.rx.kids.l),PV.sl x.fmts.nil (szc 5 x.fmts.l) (List.map T.Fmt.enc x.fmts.l),PV.bool x.fold,PV.bool x.all]
theorem T.Form.qd (x : T.Form) : x.enc = [PV.int IntKind.i64 x.rx.kind,PV.str x.rx.char,PV.bool x.rx.not,PV.sl x.rx.rows.nil (szc 2 x.rx.rows.l) (List.map T.Row.enc x.rx.rows.l),PV.int IntKind.i64 x.rx.min,PV.int IntKind.i64 x.rx.max,PV.bool x.rx.lazy,PV.sl x.rx.kids.nil (szc 8 x.rx.kids.l) (List.map T.Rx.enc x.rx.kids.l),PV.sl x.fmts.nil (szc 5 x.fmts.l) (List.map T.Fmt.enc x.fmts.l),PV.bool x.fold,PV.bool x.all] := rfl
def T.Form.ok (x : T.Form) : Prop := T.Rx.ok x.rx ∧ (zo T.Fmt.ok) x.fmts ∧ xx x.fold ∧ xx x.all ∧ True
structure T.Stop where
 span : T.Span
 n : Int
 up : Int
 first : Bool
 turned : Bool
 form : T.Form
 opts : (Sl Bytes)
 deriving Inhabited
def T.Stop.enc (x : T.Stop) : List PV :=
 [PV.int IntKind.i64 x.span.frm,PV.int IntKind.i64 x.span.to,PV.int IntKind.i64 x.n,PV.int IntKind.i64 x.up,PV.bool x.first,PV.bool x.turned,PV.int IntKind.i64 x.form.rx.kind,PV.str x.form.rx.char,PV.bool x.form.rx.not,PV.sl x.form.rx.rows.nil (szc 2 x.form.rx.rows.l) (List.map T.Row.enc x.form.rx.rows.l),PV.int IntKind.i64 x.form.rx.min,PV.int IntKind.i64 x.form.rx.max,PV.bool x.form.rx.lazy,PV.sl x.form.rx.kids.nil (szc 8 x.form.rx.kids.l) (List.map T.Rx.enc x.form.rx.kids.l),PV.sl x.form.fmts.nil (szc 5 x.form.fmts.l) (List.map T.Fmt.enc x.form.fmts.l),PV.bool x.form.fold,PV.bool x.form.all,PV.sl x.opts.nil (szc 1 x.opts.l) (List.map zu x.opts.l)]
theorem T.Stop.qd (x : T.Stop) : x.enc = [PV.int IntKind.i64 x.span.frm,PV.int IntKind.i64 x.span.to,PV.int IntKind.i64 x.n,PV.int IntKind.i64 x.up,PV.bool x.first,PV.bool x.turned,PV.int IntKind.i64 x.form.rx.kind,PV.str x.form.rx.char,PV.bool x.form.rx.not,PV.sl x.form.rx.rows.nil (szc 2 x.form.rx.rows.l) (List.map T.Row.enc x.form.rx.rows.l),PV.int IntKind.i64 x.form.rx.min,PV.int IntKind.i64 x.form.rx.max,PV.bool x.form.rx.lazy,PV.sl x.form.rx.kids.nil (szc 8 x.form.rx.kids.l) (List.map T.Rx.enc x.form.rx.kids.l),PV.sl x.form.fmts.nil (szc 5 x.form.fmts.l) (List.map T.Fmt.enc x.form.fmts.l),PV.bool x.form.fold,PV.bool x.form.all,PV.sl x.opts.nil (szc 1 x.opts.l) (List.map zu x.opts.l)] := rfl
def T.Stop.ok (x : T.Stop) : Prop := T.Span.ok x.span ∧ inI x.n ∧ inI x.up ∧ xx x.first ∧ xx x.turned ∧ T.Form.ok x.form ∧ (zo jl) x.opts ∧ True
structure T.uq where
 span : T.Span
 stops : (Sl T.Stop)
 deriving Inhabited
def T.uq.enc (x : T.uq) : List PV :=
 [PV.int IntKind.i64 x.span.frm,PV.int IntKind.i64 x.span.to,PV.sl x.stops.nil (szc 18 x.stops.l) (List.map T.Stop.enc x.stops.l)]
theorem T.uq.qd (x : T.uq) : x.enc = [PV.int IntKind.i64 x.span.frm,PV.int IntKind.i64 x.span.to,PV.sl x.stops.nil (szc 18 x.stops.l) (List.map T.Stop.enc x.stops.l)] := rfl
def T.uq.ok (x : T.uq) : Prop := T.Span.ok x.span ∧ (zo T.Stop.ok) x.stops ∧ True
structure T.uu where
 cur : Int
 insts : (Sl T.uq)
 deriving Inhabited
def T.uu.enc (x : T.uu) : List PV :=
 [PV.int IntKind.i64 x.cur,PV.sl x.insts.nil (szc 3 x.insts.l) (List.map T.uq.enc x.insts.l)]
theorem T.uu.qd (x : T.uu) : x.enc = [PV.int IntKind.i64 x.cur,PV.sl x.insts.nil (szc 3 x.insts.l) (List.map T.uq.enc x.insts.l)] := rfl
def T.uu.ok (x : T.uu) : Prop := inI x.cur ∧ (zo T.uq.ok) x.insts ∧ True
structure T.State where
 text : Bytes
 sels : (Sl T.Sel)
 sessions : (Sl T.uu)
 deriving Inhabited
def T.State.enc (x : T.State) : List PV :=
 [PV.str x.text,PV.sl x.sels.nil (szc 2 x.sels.l) (List.map T.Sel.enc x.sels.l),PV.sl x.sessions.nil (szc 2 x.sessions.l) (List.map T.uu.enc x.sessions.l)]
theorem T.State.qd (x : T.State) : x.enc = [PV.str x.text,PV.sl x.sels.nil (szc 2 x.sels.l) (List.map T.Sel.enc x.sels.l),PV.sl x.sessions.nil (szc 2 x.sessions.l) (List.map T.uu.enc x.sessions.l)] := rfl
def T.State.ok (x : T.State) : Prop := jl x.text ∧ (zo T.Sel.ok) x.sels ∧ (zo T.uu.ok) x.sessions ∧ True
structure T.q30 where
 name : Bytes
 value : Bytes
 deriving Inhabited,DecidableEq
def T.q30.enc (x : T.q30) : List PV :=
 [PV.str x.name,PV.str x.value]
theorem T.q30.qd (x : T.q30) : x.enc = [PV.str x.name,PV.str x.value] := rfl
def T.q30.ok (x : T.q30) : Prop := jl x.name ∧ jl x.value ∧ True
structure T.q3k where
 nums : (Sl Int)
 told : Int
 last : Int
 deriving Inhabited,DecidableEq
def T.q3k.enc (x : T.q3k) : List PV :=
 [PV.sl x.nums.nil (szc 1 x.nums.l) (List.map (kE IntKind.u32) x.nums.l),PV.int IntKind.i64 x.told,PV.int IntKind.u32 x.last]
theorem T.q3k.qd (x : T.q3k) : x.enc = [PV.sl x.nums.nil (szc 1 x.nums.l) (List.map (kE IntKind.u32) x.nums.l),PV.int IntKind.i64 x.told,PV.int IntKind.u32 x.last] := rfl
def T.q3k.ok (x : T.q3k) : Prop := (zo inU) x.nums ∧ inI x.told ∧ inU x.last ∧ True
structure T.q2v where
 most : Int
 behind : (Sl T.State)
 ahead : (Sl T.State)
 deriving Inhabited
def T.q2v.enc (x : T.q2v) : List PV :=
 [PV.int IntKind.i64 x.most,PV.sl x.behind.nil (szc 3 x.behind.l) (List.map T.State.enc x.behind.l),PV.sl x.ahead.nil (szc 3 x.ahead.l) (List.map T.State.enc x.ahead.l)]
theorem T.q2v.qd (x : T.q2v) : x.enc = [PV.int IntKind.i64 x.most,PV.sl x.behind.nil (szc 3 x.behind.l) (List.map T.State.enc x.behind.l),PV.sl x.ahead.nil (szc 3 x.ahead.l) (List.map T.State.enc x.ahead.l)] := rfl
def T.q2v.ok (x : T.q2v) : Prop := inI x.most ∧ (zo T.State.ok) x.behind ∧ (zo T.State.ok) x.ahead ∧ True
structure T.q3r where
 s : Bytes
 at_ : Int
 deriving Inhabited,DecidableEq
def T.q3r.enc (x : T.q3r) : List PV :=
 [PV.str x.s,PV.int IntKind.i64 x.at_]
theorem T.q3r.qd (x : T.q3r) : x.enc = [PV.str x.s,PV.int IntKind.i64 x.at_] := rfl
def T.q3r.ok (x : T.q3r) : Prop := jl x.s ∧ inI x.at_ ∧ True
structure T.q3t where
 bytes : Int
 breaks : Int
 runes : Int
 units : Int
 deriving Inhabited,DecidableEq
def T.q3t.enc (x : T.q3t) : List PV :=
 [PV.int IntKind.i64 x.bytes,PV.int IntKind.i64 x.breaks,PV.int IntKind.i64 x.runes,PV.int IntKind.i64 x.units]
theorem T.q3t.qd (x : T.q3t) : x.enc = [PV.int IntKind.i64 x.bytes,PV.int IntKind.i64 x.breaks,PV.int IntKind.i64 x.runes,PV.int IntKind.i64 x.units] := rfl
def T.q3t.ok (x : T.q3t) : Prop := inI x.bytes ∧ inI x.breaks ∧ inI x.runes ∧ inI x.units ∧ True
structure T.mo where
 id : Int
 held : Bool
 deriving Inhabited,DecidableEq
def T.mo.enc (x : T.mo) : List PV :=
 [PV.int IntKind.i64 x.id,PV.bool x.held]
theorem T.mo.qd (x : T.mo) : x.enc = [PV.int IntKind.i64 x.id,PV.bool x.held] := rfl
def T.mo.ok (x : T.mo) : Prop := inI x.id ∧ xx x.held ∧ True
structure T.pz where
 session : T.uu
 marks : (Sl (Sl T.mo))
 deriving Inhabited
def T.pz.enc (x : T.pz) : List PV :=
 [PV.int IntKind.i64 x.session.cur,PV.sl x.session.insts.nil (szc 3 x.session.insts.l) (List.map T.uq.enc x.session.insts.l),PV.sl x.marks.nil (szc 1 x.marks.l) (List.map (slE 2 T.mo.enc) x.marks.l)]
theorem T.pz.qd (x : T.pz) : x.enc = [PV.int IntKind.i64 x.session.cur,PV.sl x.session.insts.nil (szc 3 x.session.insts.l) (List.map T.uq.enc x.session.insts.l),PV.sl x.marks.nil (szc 1 x.marks.l) (List.map (slE 2 T.mo.enc) x.marks.l)] := rfl
def T.pz.ok (x : T.pz) : Prop := T.uu.ok x.session ∧ (zo (zo T.mo.ok)) x.marks ∧ True
structure T.q33 where
 text : Bytes
 sels : (Sl T.Sel)
 sessions : (Sl T.pz)
 deriving Inhabited
def T.q33.enc (x : T.q33) : List PV :=
 [PV.str x.text,PV.sl x.sels.nil (szc 2 x.sels.l) (List.map T.Sel.enc x.sels.l),PV.sl x.sessions.nil (szc 3 x.sessions.l) (List.map T.pz.enc x.sessions.l)]
theorem T.q33.qd (x : T.q33) : x.enc = [PV.str x.text,PV.sl x.sels.nil (szc 2 x.sels.l) (List.map T.Sel.enc x.sels.l),PV.sl x.sessions.nil (szc 3 x.sessions.l) (List.map T.pz.enc x.sessions.l)] := rfl
def T.q33.ok (x : T.q33) : Prop := jl x.text ∧ (zo T.Sel.ok) x.sels ∧ (zo T.pz.ok) x.sessions ∧ True
structure T.zf where
 kind : Int
 text : Bytes
 n : Int
 has : Bool
 turned : Bool
 form : T.Form
 opts : (Sl Bytes)
 kids : (Sl T.zf)
 deriving Inhabited
mutual
def T.zf.enc : T.zf → List PV
 | ⟨x0,x1,x2,x3,x4,x5,x6,x7⟩ => [PV.int IntKind.i64 x0,PV.str x1,PV.int IntKind.i64 x2,PV.bool x3,PV.bool x4,PV.int IntKind.i64 x5.rx.kind,PV.str x5.rx.char,PV.bool x5.rx.not,PV.sl x5.rx.rows.nil (szc 2 x5.rx.rows.l) (List.map T.Row.enc x5.rx.rows.l),PV.int IntKind.i64 x5.rx.min,PV.int IntKind.i64 x5.rx.max,PV.bool x5.rx.lazy,PV.sl x5.rx.kids.nil (szc 8 x5.rx.kids.l) (List.map T.Rx.enc x5.rx.kids.l),PV.sl x5.fmts.nil (szc 5 x5.fmts.l) (List.map T.Fmt.enc x5.fmts.l),PV.bool x5.fold,PV.bool x5.all,PV.sl x6.nil (szc 1 x6.l) (List.map zu x6.l),T.zf.encS x7]
def T.zf.encS : Sl T.zf → PV
 | ⟨b,l⟩ => .sl b (szc 18 l) (T.zf.wo l)
def T.zf.wo : List T.zf → List (List PV)
 | [] => []
 | x :: r => x.enc :: T.zf.wo r
end
theorem T.zf.q0x : ∀ l : List T.zf,T.zf.wo l = l.map T.zf.enc
 | [] => rfl
 | x :: r => by simp [T.zf.wo,T.zf.q0x r]
theorem T.zf.q4n (s : Sl T.zf) : T.zf.encS s = .sl s.nil (szc 18 s.l) (s.l.map T.zf.enc) := by cases s; simp [T.zf.encS,T.zf.q0x]
theorem T.zf.qd (x : T.zf) : x.enc = [PV.int IntKind.i64 x.kind,PV.str x.text,PV.int IntKind.i64 x.n,PV.bool x.has,PV.bool x.turned,PV.int IntKind.i64 x.form.rx.kind,PV.str x.form.rx.char,PV.bool x.form.rx.not,PV.sl x.form.rx.rows.nil (szc 2 x.form.rx.rows.l) (List.map T.Row.enc x.form.rx.rows.l),PV.int IntKind.i64 x.form.rx.min,PV.int IntKind.i64 x.form.rx.max,PV.bool x.form.rx.lazy,PV.sl x.form.rx.kids.nil (szc 8 x.form.rx.kids.l) (List.map T.Rx.enc x.form.rx.kids.l),PV.sl x.form.fmts.nil (szc 5 x.form.fmts.l) (List.map T.Fmt.enc x.form.fmts.l),PV.bool x.form.fold,PV.bool x.form.all,PV.sl x.opts.nil (szc 1 x.opts.l) (List.map zu x.opts.l),PV.sl x.kids.nil (szc 18 x.kids.l) (List.map T.zf.enc x.kids.l)] := by cases x; simp [T.zf.enc,T.zf.q4n]
mutual
def T.zf.ok : T.zf → Prop
 | ⟨x0,x1,x2,x3,x4,x5,x6,x7⟩ => inI x0 ∧ jl x1 ∧ inI x2 ∧ xx x3 ∧ xx x4 ∧ T.Form.ok x5 ∧ (zo jl) x6 ∧ T.zf.okS x7 ∧ True
def T.zf.okS : Sl T.zf → Prop
 | ⟨b,l⟩ => (l.length ≤ maxLen ∧ (b = true → l = [])) ∧ T.zf.okL l
def T.zf.okL : List T.zf → Prop
 | [] => True
 | x :: r => x.ok ∧ T.zf.okL r
end
structure T.Range where
 span : T.Span
 fromRight : Bool
 toRight : Bool
 parent : Int
 deriving Inhabited,DecidableEq
def T.Range.enc (x : T.Range) : List PV :=
 [PV.int IntKind.i64 x.span.frm,PV.int IntKind.i64 x.span.to,PV.bool x.fromRight,PV.bool x.toRight,PV.int IntKind.i64 x.parent]
theorem T.Range.qd (x : T.Range) : x.enc = [PV.int IntKind.i64 x.span.frm,PV.int IntKind.i64 x.span.to,PV.bool x.fromRight,PV.bool x.toRight,PV.int IntKind.i64 x.parent] := rfl
def T.Range.ok (x : T.Range) : Prop := T.Span.ok x.span ∧ xx x.fromRight ∧ xx x.toRight ∧ inI x.parent ∧ True
structure T.q2x where
 part : T.zf
 end_ : Int
 ok_ : Bool
 deriving Inhabited
def T.q2x.enc (x : T.q2x) : List PV :=
 [PV.int IntKind.i64 x.part.kind,PV.str x.part.text,PV.int IntKind.i64 x.part.n,PV.bool x.part.has,PV.bool x.part.turned,PV.int IntKind.i64 x.part.form.rx.kind,PV.str x.part.form.rx.char,PV.bool x.part.form.rx.not,PV.sl x.part.form.rx.rows.nil (szc 2 x.part.form.rx.rows.l) (List.map T.Row.enc x.part.form.rx.rows.l),PV.int IntKind.i64 x.part.form.rx.min,PV.int IntKind.i64 x.part.form.rx.max,PV.bool x.part.form.rx.lazy,PV.sl x.part.form.rx.kids.nil (szc 8 x.part.form.rx.kids.l) (List.map T.Rx.enc x.part.form.rx.kids.l),PV.sl x.part.form.fmts.nil (szc 5 x.part.form.fmts.l) (List.map T.Fmt.enc x.part.form.fmts.l),PV.bool x.part.form.fold,PV.bool x.part.form.all,PV.sl x.part.opts.nil (szc 1 x.part.opts.l) (List.map zu x.part.opts.l),PV.sl x.part.kids.nil (szc 18 x.part.kids.l) (List.map T.zf.enc x.part.kids.l),PV.int IntKind.i64 x.end_,PV.bool x.ok_]
theorem T.q2x.qd (x : T.q2x) : x.enc = [PV.int IntKind.i64 x.part.kind,PV.str x.part.text,PV.int IntKind.i64 x.part.n,PV.bool x.part.has,PV.bool x.part.turned,PV.int IntKind.i64 x.part.form.rx.kind,PV.str x.part.form.rx.char,PV.bool x.part.form.rx.not,PV.sl x.part.form.rx.rows.nil (szc 2 x.part.form.rx.rows.l) (List.map T.Row.enc x.part.form.rx.rows.l),PV.int IntKind.i64 x.part.form.rx.min,PV.int IntKind.i64 x.part.form.rx.max,PV.bool x.part.form.rx.lazy,PV.sl x.part.form.rx.kids.nil (szc 8 x.part.form.rx.kids.l) (List.map T.Rx.enc x.part.form.rx.kids.l),PV.sl x.part.form.fmts.nil (szc 5 x.part.form.fmts.l) (List.map T.Fmt.enc x.part.form.fmts.l),PV.bool x.part.form.fold,PV.bool x.part.form.all,PV.sl x.part.opts.nil (szc 1 x.part.opts.l) (List.map zu x.part.opts.l),PV.sl x.part.kids.nil (szc 18 x.part.kids.l) (List.map T.zf.enc x.part.kids.l),PV.int IntKind.i64 x.end_,PV.bool x.ok_] := rfl
def T.q2x.ok (x : T.q2x) : Prop := T.zf.ok x.part ∧ inI x.end_ ∧ xx x.ok_ ∧ True
structure T.q35 where
 e : T.qb
 does : (Sl (Sl Int))
 inst : Int
 place : Int
 deriving Inhabited,DecidableEq
def T.q35.enc (x : T.q35) : List PV :=
 [PV.int IntKind.i64 x.e.span.frm,PV.int IntKind.i64 x.e.span.to,PV.str x.e.text,PV.sl x.does.nil (szc 1 x.does.l) (List.map (slE 1 yx) x.does.l),PV.int IntKind.i64 x.inst,PV.int IntKind.i64 x.place]
theorem T.q35.qd (x : T.q35) : x.enc = [PV.int IntKind.i64 x.e.span.frm,PV.int IntKind.i64 x.e.span.to,PV.str x.e.text,PV.sl x.does.nil (szc 1 x.does.l) (List.map (slE 1 yx) x.does.l),PV.int IntKind.i64 x.inst,PV.int IntKind.i64 x.place] := rfl
def T.q35.ok (x : T.q35) : Prop := T.qb.ok x.e ∧ (zo (zo inI)) x.does ∧ inI x.inst ∧ inI x.place ∧ True
structure T.q3n where
 span : T.Span
 parts : (Sl T.Span)
 deriving Inhabited,DecidableEq
def T.q3n.enc (x : T.q3n) : List PV :=
 [PV.int IntKind.i64 x.span.frm,PV.int IntKind.i64 x.span.to,PV.sl x.parts.nil (szc 2 x.parts.l) (List.map T.Span.enc x.parts.l)]
theorem T.q3n.qd (x : T.q3n) : x.enc = [PV.int IntKind.i64 x.span.frm,PV.int IntKind.i64 x.span.to,PV.sl x.parts.nil (szc 2 x.parts.l) (List.map T.Span.enc x.parts.l)] := rfl
def T.q3n.ok (x : T.q3n) : Prop := T.Span.ok x.span ∧ (zo T.Span.ok) x.parts ∧ True
structure T.zl where
 text : Bytes
 adapt : Bool
 stop : Bool
 turned : Bool
 form : T.Form
 n : Int
 first : Bool
 opts : (Sl Bytes)
 kids : (Sl T.zl)
 size : Int
 deriving Inhabited
mutual
def T.zl.enc : T.zl → List PV
 | ⟨x0,x1,x2,x3,x4,x5,x6,x7,x8,x9⟩ => [PV.str x0,PV.bool x1,PV.bool x2,PV.bool x3,PV.int IntKind.i64 x4.rx.kind,PV.str x4.rx.char,PV.bool x4.rx.not,PV.sl x4.rx.rows.nil (szc 2 x4.rx.rows.l) (List.map T.Row.enc x4.rx.rows.l),PV.int IntKind.i64 x4.rx.min,PV.int IntKind.i64 x4.rx.max,PV.bool x4.rx.lazy,PV.sl x4.rx.kids.nil (szc 8 x4.rx.kids.l) (List.map T.Rx.enc x4.rx.kids.l),PV.sl x4.fmts.nil (szc 5 x4.fmts.l) (List.map T.Fmt.enc x4.fmts.l),PV.bool x4.fold,PV.bool x4.all,PV.int IntKind.i64 x5,PV.bool x6,PV.sl x7.nil (szc 1 x7.l) (List.map zu x7.l),T.zl.encS x8,PV.int IntKind.i64 x9]
def T.zl.encS : Sl T.zl → PV
 | ⟨b,l⟩ => .sl b (szc 20 l) (T.zl.wo l)
def T.zl.wo : List T.zl → List (List PV)
 | [] => []
 | x :: r => x.enc :: T.zl.wo r
end
theorem T.zl.q0x : ∀ l : List T.zl,T.zl.wo l = l.map T.zl.enc
 | [] => rfl
 | x :: r => by simp [T.zl.wo,T.zl.q0x r]
theorem T.zl.q4n (s : Sl T.zl) : T.zl.encS s = .sl s.nil (szc 20 s.l) (s.l.map T.zl.enc) := by cases s; simp [T.zl.encS,T.zl.q0x]
theorem T.zl.qd (x : T.zl) : x.enc = [PV.str x.text,PV.bool x.adapt,PV.bool x.stop,PV.bool x.turned,PV.int IntKind.i64 x.form.rx.kind,PV.str x.form.rx.char,PV.bool x.form.rx.not,PV.sl x.form.rx.rows.nil (szc 2 x.form.rx.rows.l) (List.map T.Row.enc x.form.rx.rows.l),PV.int IntKind.i64 x.form.rx.min,PV.int IntKind.i64 x.form.rx.max,PV.bool x.form.rx.lazy,PV.sl x.form.rx.kids.nil (szc 8 x.form.rx.kids.l) (List.map T.Rx.enc x.form.rx.kids.l),PV.sl x.form.fmts.nil (szc 5 x.form.fmts.l) (List.map T.Fmt.enc x.form.fmts.l),PV.bool x.form.fold,PV.bool x.form.all,PV.int IntKind.i64 x.n,PV.bool x.first,PV.sl x.opts.nil (szc 1 x.opts.l) (List.map zu x.opts.l),PV.sl x.kids.nil (szc 20 x.kids.l) (List.map T.zl.enc x.kids.l),PV.int IntKind.i64 x.size] := by cases x; simp [T.zl.enc,T.zl.q4n]
mutual
def T.zl.ok : T.zl → Prop
 | ⟨x0,x1,x2,x3,x4,x5,x6,x7,x8,x9⟩ => jl x0 ∧ xx x1 ∧ xx x2 ∧ xx x3 ∧ T.Form.ok x4 ∧ inI x5 ∧ xx x6 ∧ (zo jl) x7 ∧ T.zl.okS x8 ∧ inI x9 ∧ True
def T.zl.okS : Sl T.zl → Prop
 | ⟨b,l⟩ => (l.length ≤ maxLen ∧ (b = true → l = [])) ∧ T.zl.okL l
def T.zl.okL : List T.zl → Prop
 | [] => True
 | x :: r => x.ok ∧ T.zl.okL r
end
structure T.ze where
 rx : T.Rx
 kids : (Sl T.ze)
 lo : Int
 hi : Int
 deriving Inhabited
mutual
def T.ze.enc : T.ze → List PV
 | ⟨x0,x1,x2,x3⟩ => [PV.int IntKind.i64 x0.kind,PV.str x0.char,PV.bool x0.not,PV.sl x0.rows.nil (szc 2 x0.rows.l) (List.map T.Row.enc x0.rows.l),PV.int IntKind.i64 x0.min,PV.int IntKind.i64 x0.max,PV.bool x0.lazy,PV.sl x0.kids.nil (szc 8 x0.kids.l) (List.map T.Rx.enc x0.kids.l),T.ze.encS x1,PV.int IntKind.i64 x2,PV.int IntKind.i64 x3]
def T.ze.encS : Sl T.ze → PV
 | ⟨b,l⟩ => .sl b (szc 11 l) (T.ze.wo l)
def T.ze.wo : List T.ze → List (List PV)
 | [] => []
 | x :: r => x.enc :: T.ze.wo r
end
theorem T.ze.q0x : ∀ l : List T.ze,T.ze.wo l = l.map T.ze.enc
 | [] => rfl
 | x :: r => by simp [T.ze.wo,T.ze.q0x r]
theorem T.ze.q4n (s : Sl T.ze) : T.ze.encS s = .sl s.nil (szc 11 s.l) (s.l.map T.ze.enc) := by cases s; simp [T.ze.encS,T.ze.q0x]
theorem T.ze.qd (x : T.ze) : x.enc = [PV.int IntKind.i64 x.rx.kind,PV.str x.rx.char,PV.bool x.rx.not,PV.sl x.rx.rows.nil (szc 2 x.rx.rows.l) (List.map T.Row.enc x.rx.rows.l),PV.int IntKind.i64 x.rx.min,PV.int IntKind.i64 x.rx.max,PV.bool x.rx.lazy,PV.sl x.rx.kids.nil (szc 8 x.rx.kids.l) (List.map T.Rx.enc x.rx.kids.l),PV.sl x.kids.nil (szc 11 x.kids.l) (List.map T.ze.enc x.kids.l),PV.int IntKind.i64 x.lo,PV.int IntKind.i64 x.hi] := by cases x; simp [T.ze.enc,T.ze.q4n]
mutual
def T.ze.ok : T.ze → Prop
 | ⟨x0,x1,x2,x3⟩ => T.Rx.ok x0 ∧ T.ze.okS x1 ∧ inI x2 ∧ inI x3 ∧ True
def T.ze.okS : Sl T.ze → Prop
 | ⟨b,l⟩ => (l.length ≤ maxLen ∧ (b = true → l = [])) ∧ T.ze.okL l
def T.ze.okL : List T.ze → Prop
 | [] => True
 | x :: r => x.ok ∧ T.ze.okL r
end
structure T.q3m where
 top : T.ze
 fold : Bool
 chars : (Sl Bytes)
 places : (Sl Int)
 parts : (Sl T.Span)
 fuel : Int
 out : Bool
 deriving Inhabited
def T.q3m.enc (x : T.q3m) : List PV :=
 [PV.int IntKind.i64 x.top.rx.kind,PV.str x.top.rx.char,PV.bool x.top.rx.not,PV.sl x.top.rx.rows.nil (szc 2 x.top.rx.rows.l) (List.map T.Row.enc x.top.rx.rows.l),PV.int IntKind.i64 x.top.rx.min,PV.int IntKind.i64 x.top.rx.max,PV.bool x.top.rx.lazy,PV.sl x.top.rx.kids.nil (szc 8 x.top.rx.kids.l) (List.map T.Rx.enc x.top.rx.kids.l),PV.sl x.top.kids.nil (szc 11 x.top.kids.l) (List.map T.ze.enc x.top.kids.l),PV.int IntKind.i64 x.top.lo,PV.int IntKind.i64 x.top.hi,PV.bool x.fold,PV.sl x.chars.nil (szc 1 x.chars.l) (List.map zu x.chars.l),PV.sl x.places.nil (szc 1 x.places.l) (List.map yx x.places.l),PV.sl x.parts.nil (szc 2 x.parts.l) (List.map T.Span.enc x.parts.l),PV.int IntKind.i64 x.fuel,PV.bool x.out]
theorem T.q3m.qd (x : T.q3m) : x.enc = [PV.int IntKind.i64 x.top.rx.kind,PV.str x.top.rx.char,PV.bool x.top.rx.not,PV.sl x.top.rx.rows.nil (szc 2 x.top.rx.rows.l) (List.map T.Row.enc x.top.rx.rows.l),PV.int IntKind.i64 x.top.rx.min,PV.int IntKind.i64 x.top.rx.max,PV.bool x.top.rx.lazy,PV.sl x.top.rx.kids.nil (szc 8 x.top.rx.kids.l) (List.map T.Rx.enc x.top.rx.kids.l),PV.sl x.top.kids.nil (szc 11 x.top.kids.l) (List.map T.ze.enc x.top.kids.l),PV.int IntKind.i64 x.top.lo,PV.int IntKind.i64 x.top.hi,PV.bool x.fold,PV.sl x.chars.nil (szc 1 x.chars.l) (List.map zu x.chars.l),PV.sl x.places.nil (szc 1 x.places.l) (List.map yx x.places.l),PV.sl x.parts.nil (szc 2 x.parts.l) (List.map T.Span.enc x.parts.l),PV.int IntKind.i64 x.fuel,PV.bool x.out] := rfl
def T.q3m.ok (x : T.q3m) : Prop := T.ze.ok x.top ∧ xx x.fold ∧ (zo jl) x.chars ∧ (zo inI) x.places ∧ (zo T.Span.ok) x.parts ∧ inI x.fuel ∧ xx x.out ∧ True
structure T.q38 where
 text : Bytes
 deriving Inhabited,DecidableEq
def T.q38.enc (x : T.q38) : List PV :=
 [PV.str x.text]
theorem T.q38.qd (x : T.q38) : x.enc = [PV.str x.text] := rfl
def T.q38.ok (x : T.q38) : Prop := jl x.text ∧ True
structure T.q1g where
 all : (Sl Bytes)
 at_ : Int
 deriving Inhabited,DecidableEq
def T.q1g.enc (x : T.q1g) : List PV :=
 [PV.sl x.all.nil (szc 1 x.all.l) (List.map zu x.all.l),PV.int IntKind.i64 x.at_]
theorem T.q1g.qd (x : T.q1g) : x.enc = [PV.sl x.all.nil (szc 1 x.all.l) (List.map zu x.all.l),PV.int IntKind.i64 x.at_] := rfl
def T.q1g.ok (x : T.q1g) : Prop := (zo jl) x.all ∧ inI x.at_ ∧ True
structure T.q42 where
 place : T.q1g
 deep : Int
 deriving Inhabited,DecidableEq
def T.q42.enc (x : T.q42) : List PV :=
 [PV.sl x.place.all.nil (szc 1 x.place.all.l) (List.map zu x.place.all.l),PV.int IntKind.i64 x.place.at_,PV.int IntKind.i64 x.deep]
theorem T.q42.qd (x : T.q42) : x.enc = [PV.sl x.place.all.nil (szc 1 x.place.all.l) (List.map zu x.place.all.l),PV.int IntKind.i64 x.place.at_,PV.int IntKind.i64 x.deep] := rfl
def T.q42.ok (x : T.q42) : Prop := T.q1g.ok x.place ∧ inI x.deep ∧ True
def q8z (n : Int) : Option Bytes := if -9223372036854775808 ≤ n ∧ n ≤ 9223372036854775807 then some (Go.Lib.itoa n) else none
def aw7 : Option Bool := some true
theorem ym {α : Type} {u0 u1 : Bool} {p q : Option α} {r : α} {P : Prop} (f : u0 = true → u1 = true → p = some r → P) (g : ((u0 = false ∧ Dum) ∨ (u0 = true ∧ u1 = false)) → q = some r → P) (h : (if (u0 && u1) = true then p else q) = some r) : P := by cases u0 <;> cases u1 <;> simp_all [Dum]
theorem x06 {α : Type} {u0 u1 u2 : Bool} {p q : Option α} {r : α} {P : Prop} (f : u0 = true → u1 = true → u2 = true → p = some r → P) (g : ((u0 = false ∧ Dum ∧ Dum) ∨ (u0 = true ∧ u1 = false ∧ Dum) ∨ (u0 = true ∧ u1 = true ∧ u2 = false)) → q = some r → P) (h : (if (u0 && (u1 && u2)) = true then p else q) = some r) : P := by cases u0 <;> cases u1 <;> cases u2 <;> simp_all [Dum]
theorem z9m {α : Type} {u0 u1 u2 u3 u4 : Bool} {p q : Option α} {r : α} {P : Prop} (f : u0 = true → u1 = true → u2 = true → u3 = true → u4 = true → p = some r → P) (g : ((u0 = false ∧ Dum ∧ Dum ∧ Dum ∧ Dum) ∨ (u0 = true ∧ u1 = false ∧ Dum ∧ Dum ∧ Dum) ∨ (u0 = true ∧ u1 = true ∧ u2 = false ∧ Dum ∧ Dum) ∨ (u0 = true ∧ u1 = true ∧ u2 = true ∧ u3 = false ∧ Dum) ∨ (u0 = true ∧ u1 = true ∧ u2 = true ∧ u3 = true ∧ u4 = false)) → q = some r → P) (h : (if (u0 && (u1 && (u2 && (u3 && u4)))) = true then p else q) = some r) : P := by cases u0 <;> cases u1 <;> cases u2 <;> cases u3 <;> cases u4 <;> simp_all [Dum]
theorem q7g {α : Type} {u0 u1 : Bool} {p q : Option α} {r : α} {P : Prop} (f : ((u0 = true ∧ Dum) ∨ (u0 = false ∧ u1 = true)) → p = some r → P) (g : u0 = false → u1 = false → q = some r → P) (h : (if (u0 || u1) = true then p else q) = some r) : P := by cases u0 <;> cases u1 <;> simp_all [Dum]
theorem qeo {α : Type} {u0 u1 u2 : Bool} {p q : Option α} {r : α} {P : Prop} (f : ((u0 = true ∧ Dum ∧ Dum) ∨ (u0 = false ∧ u1 = true ∧ Dum) ∨ (u0 = false ∧ u1 = false ∧ u2 = true)) → p = some r → P) (g : u0 = false → u1 = false → u2 = false → q = some r → P) (h : (if (u0 || (u1 || u2)) = true then p else q) = some r) : P := by cases u0 <;> cases u1 <;> cases u2 <;> simp_all [Dum]
theorem zgw {α : Type} {u0 u1 u2 u3 u4 : Bool} {p q : Option α} {r : α} {P : Prop} (f : ((u0 = true ∧ Dum ∧ Dum ∧ Dum ∧ Dum) ∨ (u0 = false ∧ u1 = true ∧ Dum ∧ Dum ∧ Dum) ∨ (u0 = false ∧ u1 = false ∧ u2 = true ∧ Dum ∧ Dum) ∨ (u0 = false ∧ u1 = false ∧ u2 = false ∧ u3 = true ∧ Dum) ∨ (u0 = false ∧ u1 = false ∧ u2 = false ∧ u3 = false ∧ u4 = true)) → p = some r → P) (g : u0 = false → u1 = false → u2 = false → u3 = false → u4 = false → q = some r → P) (h : (if (u0 || (u1 || (u2 || (u3 || u4)))) = true then p else q) = some r) : P := by cases u0 <;> cases u1 <;> cases u2 <;> cases u3 <;> cases u4 <;> simp_all [Dum]
theorem x53 (n : Nat) : 0 + n = n := Nat.zero_add n
def en := PLift.up (And.intro (And.intro (And.intro (And.intro (And.intro zbx.down z3y.down) (And.intro @x53 (And.intro @Int.cast_ofNat_Int @List.append_nil.{0}))) (And.intro (And.intro @List.nil_append.{0} @List.cons_append.{0}) (And.intro @T.Span.qd (And.intro @T.qb.qd @T.Sel.qd)))) (And.intro (And.intro (And.intro @T.Op.qd @T.yw.qd) (And.intro @T.qc.qd (And.intro @T.Row.qd @T.Rx.qd))) (And.intro (And.intro @T.Fmt.qd @T.Form.qd) (And.intro @T.Stop.qd (And.intro @T.uq.qd @T.uu.qd))))) (And.intro (And.intro (And.intro (And.intro @T.State.qd @T.q30.qd) (And.intro @T.q3k.qd (And.intro @T.q2v.qd @T.q3r.qd))) (And.intro (And.intro @T.q3t.qd @T.mo.qd) (And.intro @T.pz.qd (And.intro @T.q33.qd @T.zf.qd)))) (And.intro (And.intro (And.intro @T.Range.qd @T.q2x.qd) (And.intro @T.q35.qd (And.intro @T.q3n.qd @T.zl.qd))) (And.intro (And.intro @T.ze.qd @T.q3m.qd) (And.intro @T.q38.qd (And.intro @T.q1g.qd @T.q42.qd))))))
end Go.Proofs.YtaglodpkpggdiaaGreatDoor
