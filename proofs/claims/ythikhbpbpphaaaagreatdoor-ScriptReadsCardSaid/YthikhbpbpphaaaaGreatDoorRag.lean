/-
  Go's structs as Lean's.
-/
import Derived.Test.YthikhbpbpphaaaaGreatDoorRad
set_option linter.unusedSimpArgs false
set_option linter.unusedVariables false
set_option maxRecDepth 100000
namespace Go.Proofs.YthikhbpbpphaaaaGreatDoor
open Go Go.Gm
structure T.kz where
 b : (Sl UInt8)
 at_ : Int
 deriving Inhabited,DecidableEq
def T.kz.enc (x : T.kz) : List PV :=
 [PV.sl x.b.nil (szc 1 x.b.l) (List.map qw x.b.l),PV.int IntKind.i64 x.at_]
theorem T.kz.qc (x : T.kz) : x.enc = [PV.sl x.b.nil (szc 1 x.b.l) (List.map qw x.b.l),PV.int IntKind.i64 x.at_] := rfl
def T.kz.ok (x : T.kz) : Prop := (zw xu) x.b ∧ inI x.at_ ∧ True
structure T.qb where
 place : T.kz
 ok_ : Bool
 deriving Inhabited,DecidableEq
def T.qb.enc (x : T.qb) : List PV :=
 [PV.sl x.place.b.nil (szc 1 x.place.b.l) (List.map qw x.place.b.l),PV.int IntKind.i64 x.place.at_,PV.bool x.ok_]
theorem T.qb.qc (x : T.qb) : x.enc = [PV.sl x.place.b.nil (szc 1 x.place.b.l) (List.map qw x.place.b.l),PV.int IntKind.i64 x.place.at_,PV.bool x.ok_] := rfl
def T.qb.ok (x : T.qb) : Prop := T.kz.ok x.place ∧ xu x.ok_ ∧ True
structure T.Span where
 frm : Int
 to : Int
 deriving Inhabited,DecidableEq
def T.Span.enc (x : T.Span) : List PV :=
 [PV.int IntKind.i64 x.frm,PV.int IntKind.i64 x.to]
theorem T.Span.qc (x : T.Span) : x.enc = [PV.int IntKind.i64 x.frm,PV.int IntKind.i64 x.to] := rfl
def T.Span.ok (x : T.Span) : Prop := inI x.frm ∧ inI x.to ∧ True
structure T.q9 where
 span : T.Span
 text : Bytes
 deriving Inhabited,DecidableEq
def T.q9.enc (x : T.q9) : List PV :=
 [PV.int IntKind.i64 x.span.frm,PV.int IntKind.i64 x.span.to,PV.str x.text]
theorem T.q9.qc (x : T.q9) : x.enc = [PV.int IntKind.i64 x.span.frm,PV.int IntKind.i64 x.span.to,PV.str x.text] := rfl
def T.q9.ok (x : T.q9) : Prop := T.Span.ok x.span ∧ j6 x.text ∧ True
structure T.Sel where
 anchor : Int
 head : Int
 deriving Inhabited,DecidableEq
def T.Sel.enc (x : T.Sel) : List PV :=
 [PV.int IntKind.i64 x.anchor,PV.int IntKind.i64 x.head]
theorem T.Sel.qc (x : T.Sel) : x.enc = [PV.int IntKind.i64 x.anchor,PV.int IntKind.i64 x.head] := rfl
def T.Sel.ok (x : T.Sel) : Prop := inI x.anchor ∧ inI x.head ∧ True
structure T.Op where
 kind : Int
 name : Bytes
 text : Bytes
 n : Int
 extend : Bool
 edits : (Sl T.q9)
 sels : (Sl T.Sel)
 deriving Inhabited,DecidableEq
def T.Op.enc (x : T.Op) : List PV :=
 [PV.int IntKind.i64 x.kind,PV.str x.name,PV.str x.text,PV.int IntKind.i64 x.n,PV.bool x.extend,PV.sl x.edits.nil (szc 3 x.edits.l) (List.map T.q9.enc x.edits.l),PV.sl x.sels.nil (szc 2 x.sels.l) (List.map T.Sel.enc x.sels.l)]
theorem T.Op.qc (x : T.Op) : x.enc = [PV.int IntKind.i64 x.kind,PV.str x.name,PV.str x.text,PV.int IntKind.i64 x.n,PV.bool x.extend,PV.sl x.edits.nil (szc 3 x.edits.l) (List.map T.q9.enc x.edits.l),PV.sl x.sels.nil (szc 2 x.sels.l) (List.map T.Sel.enc x.sels.l)] := rfl
def T.Op.ok (x : T.Op) : Prop := inI x.kind ∧ j6 x.name ∧ j6 x.text ∧ inI x.n ∧ xu x.extend ∧ (zw T.q9.ok) x.edits ∧ (zw T.Sel.ok) x.sels ∧ True
structure T.qf where
 b : (Sl UInt8)
 at_ : Int
 deriving Inhabited,DecidableEq
def T.qf.enc (x : T.qf) : List PV :=
 [PV.sl x.b.nil (szc 1 x.b.l) (List.map qw x.b.l),PV.int IntKind.i64 x.at_]
theorem T.qf.qc (x : T.qf) : x.enc = [PV.sl x.b.nil (szc 1 x.b.l) (List.map qw x.b.l),PV.int IntKind.i64 x.at_] := rfl
def T.qf.ok (x : T.qf) : Prop := (zw xu) x.b ∧ inI x.at_ ∧ True
structure T.Row where
 frm : Bytes
 to : Bytes
 deriving Inhabited,DecidableEq
def T.Row.enc (x : T.Row) : List PV :=
 [PV.str x.frm,PV.str x.to]
theorem T.Row.qc (x : T.Row) : x.enc = [PV.str x.frm,PV.str x.to] := rfl
def T.Row.ok (x : T.Row) : Prop := j6 x.frm ∧ j6 x.to ∧ True
structure T.Rx where
 kind : Int
 char : Bytes
 not : Bool
 rows : (Sl T.Row)
 min : Int
 max : Int
 lazy : Bool
 kids : (Sl T.Rx)
 deriving Inhabited
mutual
def T.Rx.enc : T.Rx → List PV
 | ⟨x0,x1,x2,x3,x4,x5,x6,x7⟩ => [PV.int IntKind.i64 x0,PV.str x1,PV.bool x2,PV.sl x3.nil (szc 2 x3.l) (List.map T.Row.enc x3.l),PV.int IntKind.i64 x4,PV.int IntKind.i64 x5,PV.bool x6,T.Rx.encS x7]
def T.Rx.encS : Sl T.Rx → PV
 | ⟨b,l⟩ => .sl b (szc 8 l) (T.Rx.jo l)
def T.Rx.jo : List T.Rx → List (List PV)
 | [] => []
 | x :: r => x.enc :: T.Rx.jo r
end
theorem T.Rx.bf : ∀ l : List T.Rx,T.Rx.jo l = l.map T.Rx.enc
 | [] => rfl
 | x :: r => by simp [T.Rx.jo,T.Rx.bf r]
theorem T.Rx.q2u (s : Sl T.Rx) : T.Rx.encS s = .sl s.nil (szc 8 s.l) (s.l.map T.Rx.enc) := by cases s; simp [T.Rx.encS,T.Rx.bf]
theorem T.Rx.qc (x : T.Rx) : x.enc = [PV.int IntKind.i64 x.kind,PV.str x.char,PV.bool x.not,PV.sl x.rows.nil (szc 2 x.rows.l) (List.map T.Row.enc x.rows.l),PV.int IntKind.i64 x.min,PV.int IntKind.i64 x.max,PV.bool x.lazy,PV.sl x.kids.nil (szc 8 x.kids.l) (List.map T.Rx.enc x.kids.l)] := by cases x; simp [T.Rx.enc,T.Rx.q2u]
mutual
def T.Rx.ok : T.Rx → Prop
 | ⟨x0,x1,x2,x3,x4,x5,x6,x7⟩ => inI x0 ∧ j6 x1 ∧ xu x2 ∧ (zw T.Row.ok) x3 ∧ inI x4 ∧ inI x5 ∧ xu x6 ∧ T.Rx.okS x7 ∧ True
def T.Rx.okS : Sl T.Rx → Prop
 | ⟨b,l⟩ => (l.length ≤ maxLen ∧ (b = true → l = [])) ∧ T.Rx.okL l
def T.Rx.okL : List T.Rx → Prop
 | [] => True
 | x :: r => x.ok ∧ T.Rx.okL r
end
structure T.Fmt where
 kind : Int
 n : Int
 cas : Int
 thn : Bytes
 els : Bytes
 deriving Inhabited,DecidableEq
def T.Fmt.enc (x : T.Fmt) : List PV :=
 [PV.int IntKind.i64 x.kind,PV.int IntKind.i64 x.n,PV.int IntKind.i64 x.cas,PV.str x.thn,PV.str x.els]
theorem T.Fmt.qc (x : T.Fmt) : x.enc = [PV.int IntKind.i64 x.kind,PV.int IntKind.i64 x.n,PV.int IntKind.i64 x.cas,PV.str x.thn,PV.str x.els] := rfl
def T.Fmt.ok (x : T.Fmt) : Prop := inI x.kind ∧ inI x.n ∧ inI x.cas ∧ j6 x.thn ∧ j6 x.els ∧ True
structure T.Form where
 rx : T.Rx
 fmts : (Sl T.Fmt)
 fold : Bool
 all : Bool
 deriving Inhabited
def T.Form.enc (x : T.Form) : List PV :=
 [PV.int IntKind.i64 x.rx.kind,PV.str x.rx.char,PV.bool x.rx.not,PV.sl x.rx.rows.nil (szc 2 x.rx.rows.l) (List.map T.Row.enc x.rx.rows.l),PV.int IntKind.i64 x.rx.min,PV.int IntKind.i64 x.rx.max,PV.bool x.rx.lazy,PV.sl x.rx.kids.nil (szc 8 x.rx.kids.l) (List.map T.Rx.enc x.rx.kids.l),PV.sl x.fmts.nil (szc 5 x.fmts.l) (List.map T.Fmt.enc x.fmts.l),PV.bool x.fold,PV.bool x.all]
theorem T.Form.qc (x : T.Form) : x.enc = [PV.int IntKind.i64 x.rx.kind,PV.str x.rx.char,PV.bool x.rx.not,PV.sl x.rx.rows.nil (szc 2 x.rx.rows.l) (List.map T.Row.enc x.rx.rows.l),PV.int IntKind.i64 x.rx.min,PV.int IntKind.i64 x.rx.max,PV.bool x.rx.lazy,PV.sl x.rx.kids.nil (szc 8 x.rx.kids.l) (List.map T.Rx.enc x.rx.kids.l),PV.sl x.fmts.nil (szc 5 x.fmts.l) (List.map T.Fmt.enc x.fmts.l),PV.bool x.fold,PV.bool x.all] := rfl
def T.Form.ok (x : T.Form) : Prop := T.Rx.ok x.rx ∧ (zw T.Fmt.ok) x.fmts ∧ xu x.fold ∧ xu x.all ∧ True
structure T.Stop where
 span : T.Span
 n : Int
 up : Int
 first : Bool
 turned : Bool
 form : T.Form
 opts : (Sl Bytes)
 deriving Inhabited
def T.Stop.enc (x : T.Stop) : List PV :=
 [PV.int IntKind.i64 x.span.frm,PV.int IntKind.i64 x.span.to,PV.int IntKind.i64 x.n,PV.int IntKind.i64 x.up,PV.bool x.first,PV.bool x.turned,PV.int IntKind.i64 x.form.rx.kind,PV.str x.form.rx.char,PV.bool x.form.rx.not,PV.sl x.form.rx.rows.nil (szc 2 x.form.rx.rows.l) (List.map T.Row.enc x.form.rx.rows.l),PV.int IntKind.i64 x.form.rx.min,PV.int IntKind.i64 x.form.rx.max,PV.bool x.form.rx.lazy,PV.sl x.form.rx.kids.nil (szc 8 x.form.rx.kids.l) (List.map T.Rx.enc x.form.rx.kids.l),PV.sl x.form.fmts.nil (szc 5 x.form.fmts.l) (List.map T.Fmt.enc x.form.fmts.l),PV.bool x.form.fold,PV.bool x.form.all,PV.sl x.opts.nil (szc 1 x.opts.l) (List.map jl x.opts.l)]
theorem T.Stop.qc (x : T.Stop) : x.enc = [PV.int IntKind.i64 x.span.frm,PV.int IntKind.i64 x.span.to,PV.int IntKind.i64 x.n,PV.int IntKind.i64 x.up,PV.bool x.first,PV.bool x.turned,PV.int IntKind.i64 x.form.rx.kind,PV.str x.form.rx.char,PV.bool x.form.rx.not,PV.sl x.form.rx.rows.nil (szc 2 x.form.rx.rows.l) (List.map T.Row.enc x.form.rx.rows.l),PV.int IntKind.i64 x.form.rx.min,PV.int IntKind.i64 x.form.rx.max,PV.bool x.form.rx.lazy,PV.sl x.form.rx.kids.nil (szc 8 x.form.rx.kids.l) (List.map T.Rx.enc x.form.rx.kids.l),PV.sl x.form.fmts.nil (szc 5 x.form.fmts.l) (List.map T.Fmt.enc x.form.fmts.l),PV.bool x.form.fold,PV.bool x.form.all,PV.sl x.opts.nil (szc 1 x.opts.l) (List.map jl x.opts.l)] := rfl
def T.Stop.ok (x : T.Stop) : Prop := T.Span.ok x.span ∧ inI x.n ∧ inI x.up ∧ xu x.first ∧ xu x.turned ∧ T.Form.ok x.form ∧ (zw j6) x.opts ∧ True
structure T.yg where
 span : T.Span
 stops : (Sl T.Stop)
 deriving Inhabited
def T.yg.enc (x : T.yg) : List PV :=
 [PV.int IntKind.i64 x.span.frm,PV.int IntKind.i64 x.span.to,PV.sl x.stops.nil (szc 18 x.stops.l) (List.map T.Stop.enc x.stops.l)]
theorem T.yg.qc (x : T.yg) : x.enc = [PV.int IntKind.i64 x.span.frm,PV.int IntKind.i64 x.span.to,PV.sl x.stops.nil (szc 18 x.stops.l) (List.map T.Stop.enc x.stops.l)] := rfl
def T.yg.ok (x : T.yg) : Prop := T.Span.ok x.span ∧ (zw T.Stop.ok) x.stops ∧ True
structure T.yu where
 cur : Int
 insts : (Sl T.yg)
 deriving Inhabited
def T.yu.enc (x : T.yu) : List PV :=
 [PV.int IntKind.i64 x.cur,PV.sl x.insts.nil (szc 3 x.insts.l) (List.map T.yg.enc x.insts.l)]
theorem T.yu.qc (x : T.yu) : x.enc = [PV.int IntKind.i64 x.cur,PV.sl x.insts.nil (szc 3 x.insts.l) (List.map T.yg.enc x.insts.l)] := rfl
def T.yu.ok (x : T.yu) : Prop := inI x.cur ∧ (zw T.yg.ok) x.insts ∧ True
structure T.State where
 text : Bytes
 sels : (Sl T.Sel)
 sessions : (Sl T.yu)
 deriving Inhabited
def T.State.enc (x : T.State) : List PV :=
 [PV.str x.text,PV.sl x.sels.nil (szc 2 x.sels.l) (List.map T.Sel.enc x.sels.l),PV.sl x.sessions.nil (szc 2 x.sessions.l) (List.map T.yu.enc x.sessions.l)]
theorem T.State.qc (x : T.State) : x.enc = [PV.str x.text,PV.sl x.sels.nil (szc 2 x.sels.l) (List.map T.Sel.enc x.sels.l),PV.sl x.sessions.nil (szc 2 x.sessions.l) (List.map T.yu.enc x.sessions.l)] := rfl
def T.State.ok (x : T.State) : Prop := j6 x.text ∧ (zw T.Sel.ok) x.sels ∧ (zw T.yu.ok) x.sessions ∧ True
structure T.q28 where
 name : Bytes
 value : Bytes
 deriving Inhabited,DecidableEq
def T.q28.enc (x : T.q28) : List PV :=
 [PV.str x.name,PV.str x.value]
theorem T.q28.qc (x : T.q28) : x.enc = [PV.str x.name,PV.str x.value] := rfl
def T.q28.ok (x : T.q28) : Prop := j6 x.name ∧ j6 x.value ∧ True
structure T.q1t where
 nums : (Sl Int)
 told : Int
 last : Int
 deriving Inhabited,DecidableEq
def T.q1t.enc (x : T.q1t) : List PV :=
 [PV.sl x.nums.nil (szc 1 x.nums.l) (List.map (kE IntKind.u32) x.nums.l),PV.int IntKind.i64 x.told,PV.int IntKind.u32 x.last]
theorem T.q1t.qc (x : T.q1t) : x.enc = [PV.sl x.nums.nil (szc 1 x.nums.l) (List.map (kE IntKind.u32) x.nums.l),PV.int IntKind.i64 x.told,PV.int IntKind.u32 x.last] := rfl
def T.q1t.ok (x : T.q1t) : Prop := (zw xu) x.nums ∧ inI x.told ∧ xu x.last ∧ True
structure T.q2b where
 most : Int
 behind : (Sl T.State)
 ahead : (Sl T.State)
 deriving Inhabited
def T.q2b.enc (x : T.q2b) : List PV :=
 [PV.int IntKind.i64 x.most,PV.sl x.behind.nil (szc 3 x.behind.l) (List.map T.State.enc x.behind.l),PV.sl x.ahead.nil (szc 3 x.ahead.l) (List.map T.State.enc x.ahead.l)]
theorem T.q2b.qc (x : T.q2b) : x.enc = [PV.int IntKind.i64 x.most,PV.sl x.behind.nil (szc 3 x.behind.l) (List.map T.State.enc x.behind.l),PV.sl x.ahead.nil (szc 3 x.ahead.l) (List.map T.State.enc x.ahead.l)] := rfl
def T.q2b.ok (x : T.q2b) : Prop := inI x.most ∧ (zw T.State.ok) x.behind ∧ (zw T.State.ok) x.ahead ∧ True
structure T.q2d where
 s : Bytes
 at_ : Int
 deriving Inhabited,DecidableEq
def T.q2d.enc (x : T.q2d) : List PV :=
 [PV.str x.s,PV.int IntKind.i64 x.at_]
theorem T.q2d.qc (x : T.q2d) : x.enc = [PV.str x.s,PV.int IntKind.i64 x.at_] := rfl
def T.q2d.ok (x : T.q2d) : Prop := j6 x.s ∧ inI x.at_ ∧ True
structure T.q26 where
 bytes : Int
 breaks : Int
 runes : Int
 units : Int
 deriving Inhabited,DecidableEq
def T.q26.enc (x : T.q26) : List PV :=
 [PV.int IntKind.i64 x.bytes,PV.int IntKind.i64 x.breaks,PV.int IntKind.i64 x.runes,PV.int IntKind.i64 x.units]
theorem T.q26.qc (x : T.q26) : x.enc = [PV.int IntKind.i64 x.bytes,PV.int IntKind.i64 x.breaks,PV.int IntKind.i64 x.runes,PV.int IntKind.i64 x.units] := rfl
def T.q26.ok (x : T.q26) : Prop := inI x.bytes ∧ inI x.breaks ∧ inI x.runes ∧ inI x.units ∧ True
structure T.gm where
 id : Int
 held : Bool
 deriving Inhabited,DecidableEq
def T.gm.enc (x : T.gm) : List PV :=
 [PV.int IntKind.i64 x.id,PV.bool x.held]
theorem T.gm.qc (x : T.gm) : x.enc = [PV.int IntKind.i64 x.id,PV.bool x.held] := rfl
def T.gm.ok (x : T.gm) : Prop := inI x.id ∧ xu x.held ∧ True
structure T.uj where
 session : T.yu
 marks : (Sl (Sl T.gm))
 deriving Inhabited
def T.uj.enc (x : T.uj) : List PV :=
 [PV.int IntKind.i64 x.session.cur,PV.sl x.session.insts.nil (szc 3 x.session.insts.l) (List.map T.yg.enc x.session.insts.l),PV.sl x.marks.nil (szc 1 x.marks.l) (List.map (slE 2 T.gm.enc) x.marks.l)]
theorem T.uj.qc (x : T.uj) : x.enc = [PV.int IntKind.i64 x.session.cur,PV.sl x.session.insts.nil (szc 3 x.session.insts.l) (List.map T.yg.enc x.session.insts.l),PV.sl x.marks.nil (szc 1 x.marks.l) (List.map (slE 2 T.gm.enc) x.marks.l)] := rfl
def T.uj.ok (x : T.uj) : Prop := T.yu.ok x.session ∧ (zw (zw T.gm.ok)) x.marks ∧ True
structure T.q21 where
 text : Bytes
 sels : (Sl T.Sel)
 sessions : (Sl T.uj)
 deriving Inhabited
def T.q21.enc (x : T.q21) : List PV :=
 [PV.str x.text,PV.sl x.sels.nil (szc 2 x.sels.l) (List.map T.Sel.enc x.sels.l),PV.sl x.sessions.nil (szc 3 x.sessions.l) (List.map T.uj.enc x.sessions.l)]
theorem T.q21.qc (x : T.q21) : x.enc = [PV.str x.text,PV.sl x.sels.nil (szc 2 x.sels.l) (List.map T.Sel.enc x.sels.l),PV.sl x.sessions.nil (szc 3 x.sessions.l) (List.map T.uj.enc x.sessions.l)] := rfl
def T.q21.ok (x : T.q21) : Prop := j6 x.text ∧ (zw T.Sel.ok) x.sels ∧ (zw T.uj.ok) x.sessions ∧ True
structure T.qz where
 kind : Int
 text : Bytes
 n : Int
 has : Bool
 turned : Bool
 form : T.Form
 opts : (Sl Bytes)
 kids : (Sl T.qz)
 deriving Inhabited
mutual
def T.qz.enc : T.qz → List PV
 | ⟨x0,x1,x2,x3,x4,x5,x6,x7⟩ => [PV.int IntKind.i64 x0,PV.str x1,PV.int IntKind.i64 x2,PV.bool x3,PV.bool x4,PV.int IntKind.i64 x5.rx.kind,PV.str x5.rx.char,PV.bool x5.rx.not,PV.sl x5.rx.rows.nil (szc 2 x5.rx.rows.l) (List.map T.Row.enc x5.rx.rows.l),PV.int IntKind.i64 x5.rx.min,PV.int IntKind.i64 x5.rx.max,PV.bool x5.rx.lazy,PV.sl x5.rx.kids.nil (szc 8 x5.rx.kids.l) (List.map T.Rx.enc x5.rx.kids.l),PV.sl x5.fmts.nil (szc 5 x5.fmts.l) (List.map T.Fmt.enc x5.fmts.l),PV.bool x5.fold,PV.bool x5.all,PV.sl x6.nil (szc 1 x6.l) (List.map jl x6.l),T.qz.encS x7]
def T.qz.encS : Sl T.qz → PV
 | ⟨b,l⟩ => .sl b (szc 18 l) (T.qz.jo l)
def T.qz.jo : List T.qz → List (List PV)
 | [] => []
 | x :: r => x.enc :: T.qz.jo r
end
theorem T.qz.bf : ∀ l : List T.qz,T.qz.jo l = l.map T.qz.enc
 | [] => rfl
 | x :: r => by simp [T.qz.jo,T.qz.bf r]
theorem T.qz.q2u (s : Sl T.qz) : T.qz.encS s = .sl s.nil (szc 18 s.l) (s.l.map T.qz.enc) := by cases s; simp [T.qz.encS,T.qz.bf]
theorem T.qz.qc (x : T.qz) : x.enc = [PV.int IntKind.i64 x.kind,PV.str x.text,PV.int IntKind.i64 x.n,PV.bool x.has,PV.bool x.turned,PV.int IntKind.i64 x.form.rx.kind,PV.str x.form.rx.char,PV.bool x.form.rx.not,PV.sl x.form.rx.rows.nil (szc 2 x.form.rx.rows.l) (List.map T.Row.enc x.form.rx.rows.l),PV.int IntKind.i64 x.form.rx.min,PV.int IntKind.i64 x.form.rx.max,PV.bool x.form.rx.lazy,PV.sl x.form.rx.kids.nil (szc 8 x.form.rx.kids.l) (List.map T.Rx.enc x.form.rx.kids.l),PV.sl x.form.fmts.nil (szc 5 x.form.fmts.l) (List.map T.Fmt.enc x.form.fmts.l),PV.bool x.form.fold,PV.bool x.form.all,PV.sl x.opts.nil (szc 1 x.opts.l) (List.map jl x.opts.l),PV.sl x.kids.nil (szc 18 x.kids.l) (List.map T.qz.enc x.kids.l)] := by cases x; simp [T.qz.enc,T.qz.q2u]
mutual
def T.qz.ok : T.qz → Prop
 | ⟨x0,x1,x2,x3,x4,x5,x6,x7⟩ => inI x0 ∧ j6 x1 ∧ inI x2 ∧ xu x3 ∧ xu x4 ∧ T.Form.ok x5 ∧ (zw j6) x6 ∧ T.qz.okS x7 ∧ True
def T.qz.okS : Sl T.qz → Prop
 | ⟨b,l⟩ => (l.length ≤ maxLen ∧ (b = true → l = [])) ∧ T.qz.okL l
def T.qz.okL : List T.qz → Prop
 | [] => True
 | x :: r => x.ok ∧ T.qz.okL r
end
structure T.Range where
 span : T.Span
 fromRight : Bool
 toRight : Bool
 parent : Int
 deriving Inhabited,DecidableEq
def T.Range.enc (x : T.Range) : List PV :=
 [PV.int IntKind.i64 x.span.frm,PV.int IntKind.i64 x.span.to,PV.bool x.fromRight,PV.bool x.toRight,PV.int IntKind.i64 x.parent]
theorem T.Range.qc (x : T.Range) : x.enc = [PV.int IntKind.i64 x.span.frm,PV.int IntKind.i64 x.span.to,PV.bool x.fromRight,PV.bool x.toRight,PV.int IntKind.i64 x.parent] := rfl
def T.Range.ok (x : T.Range) : Prop := T.Span.ok x.span ∧ xu x.fromRight ∧ xu x.toRight ∧ inI x.parent ∧ True
structure T.q1n where
 part : T.qz
 end_ : Int
 ok_ : Bool
 deriving Inhabited
def T.q1n.enc (x : T.q1n) : List PV :=
 [PV.int IntKind.i64 x.part.kind,PV.str x.part.text,PV.int IntKind.i64 x.part.n,PV.bool x.part.has,PV.bool x.part.turned,PV.int IntKind.i64 x.part.form.rx.kind,PV.str x.part.form.rx.char,PV.bool x.part.form.rx.not,PV.sl x.part.form.rx.rows.nil (szc 2 x.part.form.rx.rows.l) (List.map T.Row.enc x.part.form.rx.rows.l),PV.int IntKind.i64 x.part.form.rx.min,PV.int IntKind.i64 x.part.form.rx.max,PV.bool x.part.form.rx.lazy,PV.sl x.part.form.rx.kids.nil (szc 8 x.part.form.rx.kids.l) (List.map T.Rx.enc x.part.form.rx.kids.l),PV.sl x.part.form.fmts.nil (szc 5 x.part.form.fmts.l) (List.map T.Fmt.enc x.part.form.fmts.l),PV.bool x.part.form.fold,PV.bool x.part.form.all,PV.sl x.part.opts.nil (szc 1 x.part.opts.l) (List.map jl x.part.opts.l),PV.sl x.part.kids.nil (szc 18 x.part.kids.l) (List.map T.qz.enc x.part.kids.l),PV.int IntKind.i64 x.end_,PV.bool x.ok_]
theorem T.q1n.qc (x : T.q1n) : x.enc = [PV.int IntKind.i64 x.part.kind,PV.str x.part.text,PV.int IntKind.i64 x.part.n,PV.bool x.part.has,PV.bool x.part.turned,PV.int IntKind.i64 x.part.form.rx.kind,PV.str x.part.form.rx.char,PV.bool x.part.form.rx.not,PV.sl x.part.form.rx.rows.nil (szc 2 x.part.form.rx.rows.l) (List.map T.Row.enc x.part.form.rx.rows.l),PV.int IntKind.i64 x.part.form.rx.min,PV.int IntKind.i64 x.part.form.rx.max,PV.bool x.part.form.rx.lazy,PV.sl x.part.form.rx.kids.nil (szc 8 x.part.form.rx.kids.l) (List.map T.Rx.enc x.part.form.rx.kids.l),PV.sl x.part.form.fmts.nil (szc 5 x.part.form.fmts.l) (List.map T.Fmt.enc x.part.form.fmts.l),PV.bool x.part.form.fold,PV.bool x.part.form.all,PV.sl x.part.opts.nil (szc 1 x.part.opts.l) (List.map jl x.part.opts.l),PV.sl x.part.kids.nil (szc 18 x.part.kids.l) (List.map T.qz.enc x.part.kids.l),PV.int IntKind.i64 x.end_,PV.bool x.ok_] := rfl
def T.q1n.ok (x : T.q1n) : Prop := T.qz.ok x.part ∧ inI x.end_ ∧ xu x.ok_ ∧ True
structure T.q1h where
 e : T.q9
 does : (Sl (Sl Int))
 inst : Int
 place : Int
 deriving Inhabited,DecidableEq
def T.q1h.enc (x : T.q1h) : List PV :=
 [PV.int IntKind.i64 x.e.span.frm,PV.int IntKind.i64 x.e.span.to,PV.str x.e.text,PV.sl x.does.nil (szc 1 x.does.l) (List.map (slE 1 q40) x.does.l),PV.int IntKind.i64 x.inst,PV.int IntKind.i64 x.place]
theorem T.q1h.qc (x : T.q1h) : x.enc = [PV.int IntKind.i64 x.e.span.frm,PV.int IntKind.i64 x.e.span.to,PV.str x.e.text,PV.sl x.does.nil (szc 1 x.does.l) (List.map (slE 1 q40) x.does.l),PV.int IntKind.i64 x.inst,PV.int IntKind.i64 x.place] := rfl
def T.q1h.ok (x : T.q1h) : Prop := T.q9.ok x.e ∧ (zw (zw inI)) x.does ∧ inI x.inst ∧ inI x.place ∧ True
structure T.q1f where
 span : T.Span
 parts : (Sl T.Span)
 deriving Inhabited,DecidableEq
def T.q1f.enc (x : T.q1f) : List PV :=
 [PV.int IntKind.i64 x.span.frm,PV.int IntKind.i64 x.span.to,PV.sl x.parts.nil (szc 2 x.parts.l) (List.map T.Span.enc x.parts.l)]
theorem T.q1f.qc (x : T.q1f) : x.enc = [PV.int IntKind.i64 x.span.frm,PV.int IntKind.i64 x.span.to,PV.sl x.parts.nil (szc 2 x.parts.l) (List.map T.Span.enc x.parts.l)] := rfl
def T.q1f.ok (x : T.q1f) : Prop := T.Span.ok x.span ∧ (zw T.Span.ok) x.parts ∧ True
structure T.zf where
 text : Bytes
 adapt : Bool
 stop : Bool
 turned : Bool
 form : T.Form
 n : Int
 first : Bool
 opts : (Sl Bytes)
 kids : (Sl T.zf)
 size : Int
 deriving Inhabited
mutual
def T.zf.enc : T.zf → List PV
 | ⟨x0,x1,x2,x3,x4,x5,x6,x7,x8,x9⟩ => [PV.str x0,PV.bool x1,PV.bool x2,PV.bool x3,PV.int IntKind.i64 x4.rx.kind,PV.str x4.rx.char,PV.bool x4.rx.not,PV.sl x4.rx.rows.nil (szc 2 x4.rx.rows.l) (List.map T.Row.enc x4.rx.rows.l),PV.int IntKind.i64 x4.rx.min,PV.int IntKind.i64 x4.rx.max,PV.bool x4.rx.lazy,PV.sl x4.rx.kids.nil (szc 8 x4.rx.kids.l) (List.map T.Rx.enc x4.rx.kids.l),PV.sl x4.fmts.nil (szc 5 x4.fmts.l) (List.map T.Fmt.enc x4.fmts.l),PV.bool x4.fold,PV.bool x4.all,PV.int IntKind.i64 x5,PV.bool x6,PV.sl x7.nil (szc 1 x7.l) (List.map jl x7.l),T.zf.encS x8,PV.int IntKind.i64 x9]
def T.zf.encS : Sl T.zf → PV
 | ⟨b,l⟩ => .sl b (szc 20 l) (T.zf.jo l)
def T.zf.jo : List T.zf → List (List PV)
 | [] => []
 | x :: r => x.enc :: T.zf.jo r
end
theorem T.zf.bf : ∀ l : List T.zf,T.zf.jo l = l.map T.zf.enc
 | [] => rfl
 | x :: r => by simp [T.zf.jo,T.zf.bf r]
theorem T.zf.q2u (s : Sl T.zf) : T.zf.encS s = .sl s.nil (szc 20 s.l) (s.l.map T.zf.enc) := by cases s; simp [T.zf.encS,T.zf.bf]
theorem T.zf.qc (x : T.zf) : x.enc = [PV.str x.text,PV.bool x.adapt,PV.bool x.stop,PV.bool x.turned,PV.int IntKind.i64 x.form.rx.kind,PV.str x.form.rx.char,PV.bool x.form.rx.not,PV.sl x.form.rx.rows.nil (szc 2 x.form.rx.rows.l) (List.map T.Row.enc x.form.rx.rows.l),PV.int IntKind.i64 x.form.rx.min,PV.int IntKind.i64 x.form.rx.max,PV.bool x.form.rx.lazy,PV.sl x.form.rx.kids.nil (szc 8 x.form.rx.kids.l) (List.map T.Rx.enc x.form.rx.kids.l),PV.sl x.form.fmts.nil (szc 5 x.form.fmts.l) (List.map T.Fmt.enc x.form.fmts.l),PV.bool x.form.fold,PV.bool x.form.all,PV.int IntKind.i64 x.n,PV.bool x.first,PV.sl x.opts.nil (szc 1 x.opts.l) (List.map jl x.opts.l),PV.sl x.kids.nil (szc 20 x.kids.l) (List.map T.zf.enc x.kids.l),PV.int IntKind.i64 x.size] := by cases x; simp [T.zf.enc,T.zf.q2u]
mutual
def T.zf.ok : T.zf → Prop
 | ⟨x0,x1,x2,x3,x4,x5,x6,x7,x8,x9⟩ => j6 x0 ∧ xu x1 ∧ xu x2 ∧ xu x3 ∧ T.Form.ok x4 ∧ inI x5 ∧ xu x6 ∧ (zw j6) x7 ∧ T.zf.okS x8 ∧ inI x9 ∧ True
def T.zf.okS : Sl T.zf → Prop
 | ⟨b,l⟩ => (l.length ≤ maxLen ∧ (b = true → l = [])) ∧ T.zf.okL l
def T.zf.okL : List T.zf → Prop
 | [] => True
 | x :: r => x.ok ∧ T.zf.okL r
end
structure T.qy where
 rx : T.Rx
 kids : (Sl T.qy)
 lo : Int
 hi : Int
 deriving Inhabited
mutual
def T.qy.enc : T.qy → List PV
 | ⟨x0,x1,x2,x3⟩ => [PV.int IntKind.i64 x0.kind,PV.str x0.char,PV.bool x0.not,PV.sl x0.rows.nil (szc 2 x0.rows.l) (List.map T.Row.enc x0.rows.l),PV.int IntKind.i64 x0.min,PV.int IntKind.i64 x0.max,PV.bool x0.lazy,PV.sl x0.kids.nil (szc 8 x0.kids.l) (List.map T.Rx.enc x0.kids.l),T.qy.encS x1,PV.int IntKind.i64 x2,PV.int IntKind.i64 x3]
def T.qy.encS : Sl T.qy → PV
 | ⟨b,l⟩ => .sl b (szc 11 l) (T.qy.jo l)
def T.qy.jo : List T.qy → List (List PV)
 | [] => []
 | x :: r => x.enc :: T.qy.jo r
end
theorem T.qy.bf : ∀ l : List T.qy,T.qy.jo l = l.map T.qy.enc
 | [] => rfl
 | x :: r => by simp [T.qy.jo,T.qy.bf r]
theorem T.qy.q2u (s : Sl T.qy) : T.qy.encS s = .sl s.nil (szc 11 s.l) (s.l.map T.qy.enc) := by cases s; simp [T.qy.encS,T.qy.bf]
theorem T.qy.qc (x : T.qy) : x.enc = [PV.int IntKind.i64 x.rx.kind,PV.str x.rx.char,PV.bool x.rx.not,PV.sl x.rx.rows.nil (szc 2 x.rx.rows.l) (List.map T.Row.enc x.rx.rows.l),PV.int IntKind.i64 x.rx.min,PV.int IntKind.i64 x.rx.max,PV.bool x.rx.lazy,PV.sl x.rx.kids.nil (szc 8 x.rx.kids.l) (List.map T.Rx.enc x.rx.kids.l),PV.sl x.kids.nil (szc 11 x.kids.l) (List.map T.qy.enc x.kids.l),PV.int IntKind.i64 x.lo,PV.int IntKind.i64 x.hi] := by cases x; simp [T.qy.enc,T.qy.q2u]
mutual
def T.qy.ok : T.qy → Prop
 | ⟨x0,x1,x2,x3⟩ => T.Rx.ok x0 ∧ T.qy.okS x1 ∧ inI x2 ∧ inI x3 ∧ True
def T.qy.okS : Sl T.qy → Prop
 | ⟨b,l⟩ => (l.length ≤ maxLen ∧ (b = true → l = [])) ∧ T.qy.okL l
def T.qy.okL : List T.qy → Prop
 | [] => True
 | x :: r => x.ok ∧ T.qy.okL r
end
structure T.q29 where
 top : T.qy
 fold : Bool
 chars : (Sl Bytes)
 places : (Sl Int)
 parts : (Sl T.Span)
 fuel : Int
 out : Bool
 deriving Inhabited
def T.q29.enc (x : T.q29) : List PV :=
 [PV.int IntKind.i64 x.top.rx.kind,PV.str x.top.rx.char,PV.bool x.top.rx.not,PV.sl x.top.rx.rows.nil (szc 2 x.top.rx.rows.l) (List.map T.Row.enc x.top.rx.rows.l),PV.int IntKind.i64 x.top.rx.min,PV.int IntKind.i64 x.top.rx.max,PV.bool x.top.rx.lazy,PV.sl x.top.rx.kids.nil (szc 8 x.top.rx.kids.l) (List.map T.Rx.enc x.top.rx.kids.l),PV.sl x.top.kids.nil (szc 11 x.top.kids.l) (List.map T.qy.enc x.top.kids.l),PV.int IntKind.i64 x.top.lo,PV.int IntKind.i64 x.top.hi,PV.bool x.fold,PV.sl x.chars.nil (szc 1 x.chars.l) (List.map jl x.chars.l),PV.sl x.places.nil (szc 1 x.places.l) (List.map q40 x.places.l),PV.sl x.parts.nil (szc 2 x.parts.l) (List.map T.Span.enc x.parts.l),PV.int IntKind.i64 x.fuel,PV.bool x.out]
theorem T.q29.qc (x : T.q29) : x.enc = [PV.int IntKind.i64 x.top.rx.kind,PV.str x.top.rx.char,PV.bool x.top.rx.not,PV.sl x.top.rx.rows.nil (szc 2 x.top.rx.rows.l) (List.map T.Row.enc x.top.rx.rows.l),PV.int IntKind.i64 x.top.rx.min,PV.int IntKind.i64 x.top.rx.max,PV.bool x.top.rx.lazy,PV.sl x.top.rx.kids.nil (szc 8 x.top.rx.kids.l) (List.map T.Rx.enc x.top.rx.kids.l),PV.sl x.top.kids.nil (szc 11 x.top.kids.l) (List.map T.qy.enc x.top.kids.l),PV.int IntKind.i64 x.top.lo,PV.int IntKind.i64 x.top.hi,PV.bool x.fold,PV.sl x.chars.nil (szc 1 x.chars.l) (List.map jl x.chars.l),PV.sl x.places.nil (szc 1 x.places.l) (List.map q40 x.places.l),PV.sl x.parts.nil (szc 2 x.parts.l) (List.map T.Span.enc x.parts.l),PV.int IntKind.i64 x.fuel,PV.bool x.out] := rfl
def T.q29.ok (x : T.q29) : Prop := T.qy.ok x.top ∧ xu x.fold ∧ (zw j6) x.chars ∧ (zw inI) x.places ∧ (zw T.Span.ok) x.parts ∧ inI x.fuel ∧ xu x.out ∧ True
structure T.q2g where
 text : Bytes
 deriving Inhabited,DecidableEq
def T.q2g.enc (x : T.q2g) : List PV :=
 [PV.str x.text]
theorem T.q2g.qc (x : T.q2g) : x.enc = [PV.str x.text] := rfl
def T.q2g.ok (x : T.q2g) : Prop := j6 x.text ∧ True
structure T.q0b where
 all : (Sl Bytes)
 at_ : Int
 deriving Inhabited,DecidableEq
def T.q0b.enc (x : T.q0b) : List PV :=
 [PV.sl x.all.nil (szc 1 x.all.l) (List.map jl x.all.l),PV.int IntKind.i64 x.at_]
theorem T.q0b.qc (x : T.q0b) : x.enc = [PV.sl x.all.nil (szc 1 x.all.l) (List.map jl x.all.l),PV.int IntKind.i64 x.at_] := rfl
def T.q0b.ok (x : T.q0b) : Prop := (zw j6) x.all ∧ inI x.at_ ∧ True
structure T.q1q where
 place : T.q0b
 deep : Int
 deriving Inhabited,DecidableEq
def T.q1q.enc (x : T.q1q) : List PV :=
 [PV.sl x.place.all.nil (szc 1 x.place.all.l) (List.map jl x.place.all.l),PV.int IntKind.i64 x.place.at_,PV.int IntKind.i64 x.deep]
theorem T.q1q.qc (x : T.q1q) : x.enc = [PV.sl x.place.all.nil (szc 1 x.place.all.l) (List.map jl x.place.all.l),PV.int IntKind.i64 x.place.at_,PV.int IntKind.i64 x.deep] := rfl
def T.q1q.ok (x : T.q1q) : Prop := T.q0b.ok x.place ∧ inI x.deep ∧ True
def aw4 : Option Bool := some true
theorem q3g {α : Type} {u0 u1 : Bool} {p q : Option α} {r : α} {P : Prop} (f : u0 = true → u1 = true → p = some r → P) (g : ((u0 = false ∧ Dum) ∨ (u0 = true ∧ u1 = false)) → q = some r → P) (h : (if (u0 && u1) = true then p else q) = some r) : P := by cases u0 <;> cases u1 <;> simp_all [Dum]
theorem qfn {α : Type} {u0 u1 u2 : Bool} {p q : Option α} {r : α} {P : Prop} (f : u0 = true → u1 = true → u2 = true → p = some r → P) (g : ((u0 = false ∧ Dum ∧ Dum) ∨ (u0 = true ∧ u1 = false ∧ Dum) ∨ (u0 = true ∧ u1 = true ∧ u2 = false)) → q = some r → P) (h : (if (u0 && (u1 && u2)) = true then p else q) = some r) : P := by cases u0 <;> cases u1 <;> cases u2 <;> simp_all [Dum]
theorem qla {α : Type} {u0 u1 u2 : Bool} {p q : Option α} {r : α} {P : Prop} (f : ((u0 = true ∧ u1 = true ∧ Dum) ∨ (u0 = true ∧ u1 = false ∧ u2 = true)) → p = some r → P) (g : ((u0 = false ∧ Dum ∧ Dum) ∨ (u0 = true ∧ u1 = false ∧ u2 = false)) → q = some r → P) (h : (if (u0 && (u1 || u2)) = true then p else q) = some r) : P := by cases u0 <;> cases u1 <;> cases u2 <;> simp_all [Dum]
theorem q60 {α : Type} {u0 u1 : Bool} {p q : Option α} {r : α} {P : Prop} (f : ((u0 = true ∧ Dum) ∨ (u0 = false ∧ u1 = true)) → p = some r → P) (g : u0 = false → u1 = false → q = some r → P) (h : (if (u0 || u1) = true then p else q) = some r) : P := by cases u0 <;> cases u1 <;> simp_all [Dum]
theorem qax {α : Type} {u0 u1 u2 : Bool} {p q : Option α} {r : α} {P : Prop} (f : ((u0 = true ∧ Dum ∧ Dum) ∨ (u0 = false ∧ u1 = true ∧ Dum) ∨ (u0 = false ∧ u1 = false ∧ u2 = true)) → p = some r → P) (g : u0 = false → u1 = false → u2 = false → q = some r → P) (h : (if (u0 || (u1 || u2)) = true then p else q) = some r) : P := by cases u0 <;> cases u1 <;> cases u2 <;> simp_all [Dum]
theorem qup {α : Type} {u0 u1 u2 u3 u4 : Bool} {p q : Option α} {r : α} {P : Prop} (f : ((u0 = true ∧ Dum ∧ Dum ∧ Dum ∧ Dum) ∨ (u0 = false ∧ u1 = true ∧ Dum ∧ Dum ∧ Dum) ∨ (u0 = false ∧ u1 = false ∧ u2 = true ∧ Dum ∧ Dum) ∨ (u0 = false ∧ u1 = false ∧ u2 = false ∧ u3 = true ∧ Dum) ∨ (u0 = false ∧ u1 = false ∧ u2 = false ∧ u3 = false ∧ u4 = true)) → p = some r → P) (g : u0 = false → u1 = false → u2 = false → u3 = false → u4 = false → q = some r → P) (h : (if (u0 || (u1 || (u2 || (u3 || u4)))) = true then p else q) = some r) : P := by cases u0 <;> cases u1 <;> cases u2 <;> cases u3 <;> cases u4 <;> simp_all [Dum]
theorem z5c (n : Nat) : 0 + n = n := Nat.zero_add n
def en := PLift.up (And.intro (And.intro (And.intro (And.intro (And.intro zhp.down qgd.down) (And.intro @z5c (And.intro @Int.cast_ofNat_Int @List.append_nil.{0}))) (And.intro (And.intro @List.nil_append.{0} @List.cons_append.{0}) (And.intro @T.kz.qc (And.intro @T.qb.qc @T.Span.qc)))) (And.intro (And.intro (And.intro @T.q9.qc @T.Sel.qc) (And.intro @T.Op.qc (And.intro @T.qf.qc @T.Row.qc))) (And.intro (And.intro @T.Rx.qc @T.Fmt.qc) (And.intro @T.Form.qc (And.intro @T.Stop.qc @T.yg.qc))))) (And.intro (And.intro (And.intro (And.intro @T.yu.qc @T.State.qc) (And.intro @T.q28.qc (And.intro @T.q1t.qc @T.q2b.qc))) (And.intro (And.intro @T.q2d.qc @T.q26.qc) (And.intro @T.gm.qc (And.intro @T.uj.qc @T.q21.qc)))) (And.intro (And.intro (And.intro @T.qz.qc @T.Range.qc) (And.intro @T.q1n.qc (And.intro @T.q1h.qc @T.q1f.qc))) (And.intro (And.intro @T.zf.qc (And.intro @T.qy.qc @T.q29.qc)) (And.intro @T.q2g.qc (And.intro @T.q0b.qc @T.q1q.qc))))))
end Go.Proofs.YthikhbpbpphaaaaGreatDoor
