/-
  Go's structs as Lean's.
-/
import Derived.Lib.ItoaNum
import Derived.Test.YtaglodpkpggdiaaGreatDoorLad
set_option linter.unusedSimpArgs false
set_option linter.unusedVariables false
set_option maxRecDepth 100000
namespace Go.Proofs.YtaglodpkpggdiaaGreatDoor
open Go Go.Gm
structure T.Span where
 frm : Int
 to : Int
 deriving Inhabited,DecidableEq
def T.Span.enc (x : T.Span) : List PV :=
 [PV.int IntKind.i64 x.frm,PV.int IntKind.i64 x.to]
theorem T.Span.qd (x : T.Span) : x.enc = [PV.int IntKind.i64 x.frm,PV.int IntKind.i64 x.to] := rfl
def T.Span.ok (x : T.Span) : Prop := inI x.frm ∧ inI x.to ∧ True
structure T.qb where
 span : T.Span
 text : Bytes
 deriving Inhabited,DecidableEq
def T.qb.enc (x : T.qb) : List PV :=
 [PV.int IntKind.i64 x.span.frm,PV.int IntKind.i64 x.span.to,PV.str x.text]
theorem T.qb.qd (x : T.qb) : x.enc = [PV.int IntKind.i64 x.span.frm,PV.int IntKind.i64 x.span.to,PV.str x.text] := rfl
def T.qb.ok (x : T.qb) : Prop := T.Span.ok x.span ∧ jl x.text ∧ True
structure T.Sel where
 anchor : Int
 head : Int
 deriving Inhabited,DecidableEq
def T.Sel.enc (x : T.Sel) : List PV :=
 [PV.int IntKind.i64 x.anchor,PV.int IntKind.i64 x.head]
theorem T.Sel.qd (x : T.Sel) : x.enc = [PV.int IntKind.i64 x.anchor,PV.int IntKind.i64 x.head] := rfl
def T.Sel.ok (x : T.Sel) : Prop := inI x.anchor ∧ inI x.head ∧ True
structure T.Op where
 kind : Int
 name : Bytes
 text : Bytes
 n : Int
 extend : Bool
 edits : (Sl T.qb)
 sels : (Sl T.Sel)
 deriving Inhabited,DecidableEq
def T.Op.enc (x : T.Op) : List PV :=
 [PV.int IntKind.i64 x.kind,PV.str x.name,PV.str x.text,PV.int IntKind.i64 x.n,PV.bool x.extend,PV.sl x.edits.nil (szc 3 x.edits.l) (List.map T.qb.enc x.edits.l),PV.sl x.sels.nil (szc 2 x.sels.l) (List.map T.Sel.enc x.sels.l)]
theorem T.Op.qd (x : T.Op) : x.enc = [PV.int IntKind.i64 x.kind,PV.str x.name,PV.str x.text,PV.int IntKind.i64 x.n,PV.bool x.extend,PV.sl x.edits.nil (szc 3 x.edits.l) (List.map T.qb.enc x.edits.l),PV.sl x.sels.nil (szc 2 x.sels.l) (List.map T.Sel.enc x.sels.l)] := rfl
def T.Op.ok (x : T.Op) : Prop := inI x.kind ∧ jl x.name ∧ jl x.text ∧ inI x.n ∧ jc x.extend ∧ (zw T.qb.ok) x.edits ∧ (zw T.Sel.ok) x.sels ∧ True
structure T.yo where
 b : (Sl UInt8)
 at_ : Int
 deriving Inhabited,DecidableEq
def T.yo.enc (x : T.yo) : List PV :=
 [PV.sl x.b.nil (szc 1 x.b.l) (List.map z8 x.b.l),PV.int IntKind.i64 x.at_]
theorem T.yo.qd (x : T.yo) : x.enc = [PV.sl x.b.nil (szc 1 x.b.l) (List.map z8 x.b.l),PV.int IntKind.i64 x.at_] := rfl
def T.yo.ok (x : T.yo) : Prop := (zw jc) x.b ∧ inI x.at_ ∧ True
structure T.qc where
 place : T.yo
 ok_ : Bool
 deriving Inhabited,DecidableEq
def T.qc.enc (x : T.qc) : List PV :=
 [PV.sl x.place.b.nil (szc 1 x.place.b.l) (List.map z8 x.place.b.l),PV.int IntKind.i64 x.place.at_,PV.bool x.ok_]
theorem T.qc.qd (x : T.qc) : x.enc = [PV.sl x.place.b.nil (szc 1 x.place.b.l) (List.map z8 x.place.b.l),PV.int IntKind.i64 x.place.at_,PV.bool x.ok_] := rfl
def T.qc.ok (x : T.qc) : Prop := T.yo.ok x.place ∧ jc x.ok_ ∧ True
structure T.Row where
 frm : Bytes
 to : Bytes
 deriving Inhabited,DecidableEq
def T.Row.enc (x : T.Row) : List PV :=
 [PV.str x.frm,PV.str x.to]
theorem T.Row.qd (x : T.Row) : x.enc = [PV.str x.frm,PV.str x.to] := rfl
def T.Row.ok (x : T.Row) : Prop := jl x.frm ∧ jl x.to ∧ True
structure T.Rx where
 kind : Int
 char : Bytes
 not : Bool
 rows : (Sl T.Row)
 min : Int
 max : Int
 lazy : Bool
 kids : (Sl T.Rx)
 deriving Inhabited
mutual
def T.Rx.enc : T.Rx → List PV
 | ⟨x0,x1,x2,x3,x4,x5,x6,x7⟩ => [PV.int IntKind.i64 x0,PV.str x1,PV.bool x2,PV.sl x3.nil (szc 2 x3.l) (List.map T.Row.enc x3.l),PV.int IntKind.i64 x4,PV.int IntKind.i64 x5,PV.bool x6,T.Rx.encS x7]
def T.Rx.encS : Sl T.Rx → PV
 | ⟨b,l⟩ => .sl b (szc 8 l) (T.Rx.kz l)
def T.Rx.kz : List T.Rx → List (List PV)
 | [] => []
 | x :: r => x.enc :: T.Rx.kz r
end
theorem T.Rx.q0o : ∀ l : List T.Rx,T.Rx.kz l = l.map T.Rx.enc
 | [] => rfl
 | x :: r => by simp [T.Rx.kz,T.Rx.q0o r]
theorem T.Rx.q49 (s : Sl T.Rx) : T.Rx.encS s = .sl s.nil (szc 8 s.l) (s.l.map T.Rx.enc) := by cases s; simp [T.Rx.encS,T.Rx.q0o]
theorem T.Rx.qd (x : T.Rx) : x.enc = [PV.int IntKind.i64 x.kind,PV.str x.char,PV.bool x.not,PV.sl x.rows.nil (szc 2 x.rows.l) (List.map T.Row.enc x.rows.l),PV.int IntKind.i64 x.min,PV.int IntKind.i64 x.max,PV.bool x.lazy,PV.sl x.kids.nil (szc 8 x.kids.l) (List.map T.Rx.enc x.kids.l)] := by cases x; simp [T.Rx.enc,T.Rx.q49]
mutual
def T.Rx.ok : T.Rx → Prop
 | ⟨x0,x1,x2,x3,x4,x5,x6,x7⟩ => inI x0 ∧ jl x1 ∧ jc x2 ∧ (zw T.Row.ok) x3 ∧ inI x4 ∧ inI x5 ∧ jc x6 ∧ T.Rx.okS x7 ∧ True
def T.Rx.okS : Sl T.Rx → Prop
 | ⟨b,l⟩ => (l.length ≤ maxLen ∧ (b = true → l = [])) ∧ T.Rx.okL l
def T.Rx.okL : List T.Rx → Prop
 | [] => True
 | x :: r => x.ok ∧ T.Rx.okL r
end
structure T.Fmt where
 kind : Int
 n : Int
 cas : Int
 thn : Bytes
 els : Bytes
 deriving Inhabited,DecidableEq
def T.Fmt.enc (x : T.Fmt) : List PV :=
 [PV.int IntKind.i64 x.kind,PV.int IntKind.i64 x.n,PV.int IntKind.i64 x.cas,PV.str x.thn,PV.str x.els]
theorem T.Fmt.qd (x : T.Fmt) : x.enc = [PV.int IntKind.i64 x.kind,PV.int IntKind.i64 x.n,PV.int IntKind.i64 x.cas,PV.str x.thn,PV.str x.els] := rfl
def T.Fmt.ok (x : T.Fmt) : Prop := inI x.kind ∧ inI x.n ∧ inI x.cas ∧ jl x.thn ∧ jl x.els ∧ True
structure T.Form where
 rx : T.Rx
 fmts : (Sl T.Fmt)
 fold : Bool
 all : Bool
 deriving Inhabited
def T.Form.enc (x : T.Form) : List PV :=
 [PV.int IntKind.i64 x.rx.kind,PV.str x.rx.char,PV.bool x.rx.not,PV.sl x.rx.rows.nil (szc 2 x.rx.rows.l) (List.map T.Row.enc x.rx.rows.l),PV.int IntKind.i64 x.rx.min,PV.int IntKind.i64 x.rx.max,PV.bool x.rx.lazy,PV.sl x.rx.kids.nil (szc 8 x.rx.kids.l) (List.map T.Rx.enc x.rx.kids.l),PV.sl x.fmts.nil (szc 5 x.fmts.l) (List.map T.Fmt.enc x.fmts.l),PV.bool x.fold,PV.bool x.all]
theorem T.Form.qd (x : T.Form) : x.enc = [PV.int IntKind.i64 x.rx.kind,PV.str x.rx.char,PV.bool x.rx.not,PV.sl x.rx.rows.nil (szc 2 x.rx.rows.l) (List.map T.Row.enc x.rx.rows.l),PV.int IntKind.i64 x.rx.min,PV.int IntKind.i64 x.rx.max,PV.bool x.rx.lazy,PV.sl x.rx.kids.nil (szc 8 x.rx.kids.l) (List.map T.Rx.enc x.rx.kids.l),PV.sl x.fmts.nil (szc 5 x.fmts.l) (List.map T.Fmt.enc x.fmts.l),PV.bool x.fold,PV.bool x.all] := rfl
def T.Form.ok (x : T.Form) : Prop := T.Rx.ok x.rx ∧ (zw T.Fmt.ok) x.fmts ∧ jc x.fold ∧ jc x.all ∧ True
structure T.Stop where
 span : T.Span
 n : Int
 up : Int
 first : Bool
 turned : Bool
 form : T.Form
 opts : (Sl Bytes)
 deriving Inhabited
def T.Stop.enc (x : T.Stop) : List PV :=
 [PV.int IntKind.i64 x.span.frm,PV.int IntKind.i64 x.span.to,PV.int IntKind.i64 x.n,PV.int IntKind.i64 x.up,PV.bool x.first,PV.bool x.turned,PV.int IntKind.i64 x.form.rx.kind,PV.str x.form.rx.char,PV.bool x.form.rx.not,PV.sl x.form.rx.rows.nil (szc 2 x.form.rx.rows.l) (List.map T.Row.enc x.form.rx.rows.l),PV.int IntKind.i64 x.form.rx.min,PV.int IntKind.i64 x.form.rx.max,PV.bool x.form.rx.lazy,PV.sl x.form.rx.kids.nil (szc 8 x.form.rx.kids.l) (List.map T.Rx.enc x.form.rx.kids.l),PV.sl x.form.fmts.nil (szc 5 x.form.fmts.l) (List.map T.Fmt.enc x.form.fmts.l),PV.bool x.form.fold,PV.bool x.form.all,PV.sl x.opts.nil (szc 1 x.opts.l) (List.map zn x.opts.l)]
theorem T.Stop.qd (x : T.Stop) : x.enc = [PV.int IntKind.i64 x.span.frm,PV.int IntKind.i64 x.span.to,PV.int IntKind.i64 x.n,PV.int IntKind.i64 x.up,PV.bool x.first,PV.bool x.turned,PV.int IntKind.i64 x.form.rx.kind,PV.str x.form.rx.char,PV.bool x.form.rx.not,PV.sl x.form.rx.rows.nil (szc 2 x.form.rx.rows.l) (List.map T.Row.enc x.form.rx.rows.l),PV.int IntKind.i64 x.form.rx.min,PV.int IntKind.i64 x.form.rx.max,PV.bool x.form.rx.lazy,PV.sl x.form.rx.kids.nil (szc 8 x.form.rx.kids.l) (List.map T.Rx.enc x.form.rx.kids.l),PV.sl x.form.fmts.nil (szc 5 x.form.fmts.l) (List.map T.Fmt.enc x.form.fmts.l),PV.bool x.form.fold,PV.bool x.form.all,PV.sl x.opts.nil (szc 1 x.opts.l) (List.map zn x.opts.l)] := rfl
def T.Stop.ok (x : T.Stop) : Prop := T.Span.ok x.span ∧ inI x.n ∧ inI x.up ∧ jc x.first ∧ jc x.turned ∧ T.Form.ok x.form ∧ (zw jl) x.opts ∧ True
structure T.uy where
 span : T.Span
 stops : (Sl T.Stop)
 deriving Inhabited
def T.uy.enc (x : T.uy) : List PV :=
 [PV.int IntKind.i64 x.span.frm,PV.int IntKind.i64 x.span.to,PV.sl x.stops.nil (szc 18 x.stops.l) (List.map T.Stop.enc x.stops.l)]
theorem T.uy.qd (x : T.uy) : x.enc = [PV.int IntKind.i64 x.span.frm,PV.int IntKind.i64 x.span.to,PV.sl x.stops.nil (szc 18 x.stops.l) (List.map T.Stop.enc x.stops.l)] := rfl
def T.uy.ok (x : T.uy) : Prop := T.Span.ok x.span ∧ (zw T.Stop.ok) x.stops ∧ True
structure T.gq where
 cur : Int
 insts : (Sl T.uy)
 deriving Inhabited
def T.gq.enc (x : T.gq) : List PV :=
 [PV.int IntKind.i64 x.cur,PV.sl x.insts.nil (szc 3 x.insts.l) (List.map T.uy.enc x.insts.l)]
theorem T.gq.qd (x : T.gq) : x.enc = [PV.int IntKind.i64 x.cur,PV.sl x.insts.nil (szc 3 x.insts.l) (List.map T.uy.enc x.insts.l)] := rfl
def T.gq.ok (x : T.gq) : Prop := inI x.cur ∧ (zw T.uy.ok) x.insts ∧ True
structure T.State where
 text : Bytes
 sels : (Sl T.Sel)
 sessions : (Sl T.gq)
 deriving Inhabited
def T.State.enc (x : T.State) : List PV :=
 [PV.str x.text,PV.sl x.sels.nil (szc 2 x.sels.l) (List.map T.Sel.enc x.sels.l),PV.sl x.sessions.nil (szc 2 x.sessions.l) (List.map T.gq.enc x.sessions.l)]
theorem T.State.qd (x : T.State) : x.enc = [PV.str x.text,PV.sl x.sels.nil (szc 2 x.sels.l) (List.map T.Sel.enc x.sels.l),PV.sl x.sessions.nil (szc 2 x.sessions.l) (List.map T.gq.enc x.sessions.l)] := rfl
def T.State.ok (x : T.State) : Prop := jl x.text ∧ (zw T.Sel.ok) x.sels ∧ (zw T.gq.ok) x.sessions ∧ True
structure T.q42 where
 name : Bytes
 value : Bytes
 deriving Inhabited,DecidableEq
def T.q42.enc (x : T.q42) : List PV :=
 [PV.str x.name,PV.str x.value]
theorem T.q42.qd (x : T.q42) : x.enc = [PV.str x.name,PV.str x.value] := rfl
def T.q42.ok (x : T.q42) : Prop := jl x.name ∧ jl x.value ∧ True
structure T.q3i where
 nums : (Sl Int)
 told : Int
 last : Int
 deriving Inhabited,DecidableEq
def T.q3i.enc (x : T.q3i) : List PV :=
 [PV.sl x.nums.nil (szc 1 x.nums.l) (List.map (kE IntKind.u32) x.nums.l),PV.int IntKind.i64 x.told,PV.int IntKind.u32 x.last]
theorem T.q3i.qd (x : T.q3i) : x.enc = [PV.sl x.nums.nil (szc 1 x.nums.l) (List.map (kE IntKind.u32) x.nums.l),PV.int IntKind.i64 x.told,PV.int IntKind.u32 x.last] := rfl
def T.q3i.ok (x : T.q3i) : Prop := (zw inU) x.nums ∧ inI x.told ∧ inU x.last ∧ True
structure T.q3a where
 most : Int
 behind : (Sl T.State)
 ahead : (Sl T.State)
 deriving Inhabited
def T.q3a.enc (x : T.q3a) : List PV :=
 [PV.int IntKind.i64 x.most,PV.sl x.behind.nil (szc 3 x.behind.l) (List.map T.State.enc x.behind.l),PV.sl x.ahead.nil (szc 3 x.ahead.l) (List.map T.State.enc x.ahead.l)]
theorem T.q3a.qd (x : T.q3a) : x.enc = [PV.int IntKind.i64 x.most,PV.sl x.behind.nil (szc 3 x.behind.l) (List.map T.State.enc x.behind.l),PV.sl x.ahead.nil (szc 3 x.ahead.l) (List.map T.State.enc x.ahead.l)] := rfl
def T.q3a.ok (x : T.q3a) : Prop := inI x.most ∧ (zw T.State.ok) x.behind ∧ (zw T.State.ok) x.ahead ∧ True
structure T.q41 where
 s : Bytes
 at_ : Int
 deriving Inhabited,DecidableEq
def T.q41.enc (x : T.q41) : List PV :=
 [PV.str x.s,PV.int IntKind.i64 x.at_]
theorem T.q41.qd (x : T.q41) : x.enc = [PV.str x.s,PV.int IntKind.i64 x.at_] := rfl
def T.q41.ok (x : T.q41) : Prop := jl x.s ∧ inI x.at_ ∧ True
structure T.q2t where
 bytes : Int
 breaks : Int
 runes : Int
 units : Int
 deriving Inhabited,DecidableEq
def T.q2t.enc (x : T.q2t) : List PV :=
 [PV.int IntKind.i64 x.bytes,PV.int IntKind.i64 x.breaks,PV.int IntKind.i64 x.runes,PV.int IntKind.i64 x.units]
theorem T.q2t.qd (x : T.q2t) : x.enc = [PV.int IntKind.i64 x.bytes,PV.int IntKind.i64 x.breaks,PV.int IntKind.i64 x.runes,PV.int IntKind.i64 x.units] := rfl
def T.q2t.ok (x : T.q2t) : Prop := inI x.bytes ∧ inI x.breaks ∧ inI x.runes ∧ inI x.units ∧ True
structure T.mi where
 id : Int
 held : Bool
 deriving Inhabited,DecidableEq
def T.mi.enc (x : T.mi) : List PV :=
 [PV.int IntKind.i64 x.id,PV.bool x.held]
theorem T.mi.qd (x : T.mi) : x.enc = [PV.int IntKind.i64 x.id,PV.bool x.held] := rfl
def T.mi.ok (x : T.mi) : Prop := inI x.id ∧ jc x.held ∧ True
structure T.q02 where
 session : T.gq
 marks : (Sl (Sl T.mi))
 deriving Inhabited
def T.q02.enc (x : T.q02) : List PV :=
 [PV.int IntKind.i64 x.session.cur,PV.sl x.session.insts.nil (szc 3 x.session.insts.l) (List.map T.uy.enc x.session.insts.l),PV.sl x.marks.nil (szc 1 x.marks.l) (List.map (slE 2 T.mi.enc) x.marks.l)]
theorem T.q02.qd (x : T.q02) : x.enc = [PV.int IntKind.i64 x.session.cur,PV.sl x.session.insts.nil (szc 3 x.session.insts.l) (List.map T.uy.enc x.session.insts.l),PV.sl x.marks.nil (szc 1 x.marks.l) (List.map (slE 2 T.mi.enc) x.marks.l)] := rfl
def T.q02.ok (x : T.q02) : Prop := T.gq.ok x.session ∧ (zw (zw T.mi.ok)) x.marks ∧ True
structure T.q3l where
 text : Bytes
 sels : (Sl T.Sel)
 sessions : (Sl T.q02)
 deriving Inhabited
def T.q3l.enc (x : T.q3l) : List PV :=
 [PV.str x.text,PV.sl x.sels.nil (szc 2 x.sels.l) (List.map T.Sel.enc x.sels.l),PV.sl x.sessions.nil (szc 3 x.sessions.l) (List.map T.q02.enc x.sessions.l)]
theorem T.q3l.qd (x : T.q3l) : x.enc = [PV.str x.text,PV.sl x.sels.nil (szc 2 x.sels.l) (List.map T.Sel.enc x.sels.l),PV.sl x.sessions.nil (szc 3 x.sessions.l) (List.map T.q02.enc x.sessions.l)] := rfl
def T.q3l.ok (x : T.q3l) : Prop := jl x.text ∧ (zw T.Sel.ok) x.sels ∧ (zw T.q02.ok) x.sessions ∧ True
structure T.zb where
 kind : Int
 text : Bytes
 n : Int
 has : Bool
 turned : Bool
 form : T.Form
 opts : (Sl Bytes)
 kids : (Sl T.zb)
 deriving Inhabited
mutual
def T.zb.enc : T.zb → List PV
 | ⟨x0,x1,x2,x3,x4,x5,x6,x7⟩ => [PV.int IntKind.i64 x0,PV.str x1,PV.int IntKind.i64 x2,PV.bool x3,PV.bool x4,PV.int IntKind.i64 x5.rx.kind,PV.str x5.rx.char,PV.bool x5.rx.not,PV.sl x5.rx.rows.nil (szc 2 x5.rx.rows.l) (List.map T.Row.enc x5.rx.rows.l),PV.int IntKind.i64 x5.rx.min,PV.int IntKind.i64 x5.rx.max,PV.bool x5.rx.lazy,PV.sl x5.rx.kids.nil (szc 8 x5.rx.kids.l) (List.map T.Rx.enc x5.rx.kids.l),PV.sl x5.fmts.nil (szc 5 x5.fmts.l) (List.map T.Fmt.enc x5.fmts.l),PV.bool x5.fold,PV.bool x5.all,PV.sl x6.nil (szc 1 x6.l) (List.map zn x6.l),T.zb.encS x7]
def T.zb.encS : Sl T.zb → PV
 | ⟨b,l⟩ => .sl b (szc 18 l) (T.zb.kz l)
def T.zb.kz : List T.zb → List (List PV)
 | [] => []
 | x :: r => x.enc :: T.zb.kz r
end
theorem T.zb.q0o : ∀ l : List T.zb,T.zb.kz l = l.map T.zb.enc
 | [] => rfl
 | x :: r => by simp [T.zb.kz,T.zb.q0o r]
theorem T.zb.q49 (s : Sl T.zb) : T.zb.encS s = .sl s.nil (szc 18 s.l) (s.l.map T.zb.enc) := by cases s; simp [T.zb.encS,T.zb.q0o]
theorem T.zb.qd (x : T.zb) : x.enc = [PV.int IntKind.i64 x.kind,PV.str x.text,PV.int IntKind.i64 x.n,PV.bool x.has,PV.bool x.turned,PV.int IntKind.i64 x.form.rx.kind,PV.str x.form.rx.char,PV.bool x.form.rx.not,PV.sl x.form.rx.rows.nil (szc 2 x.form.rx.rows.l) (List.map T.Row.enc x.form.rx.rows.l),PV.int IntKind.i64 x.form.rx.min,PV.int IntKind.i64 x.form.rx.max,PV.bool x.form.rx.lazy,PV.sl x.form.rx.kids.nil (szc 8 x.form.rx.kids.l) (List.map T.Rx.enc x.form.rx.kids.l),PV.sl x.form.fmts.nil (szc 5 x.form.fmts.l) (List.map T.Fmt.enc x.form.fmts.l),PV.bool x.form.fold,PV.bool x.form.all,PV.sl x.opts.nil (szc 1 x.opts.l) (List.map zn x.opts.l),PV.sl x.kids.nil (szc 18 x.kids.l) (List.map T.zb.enc x.kids.l)] := by cases x; simp [T.zb.enc,T.zb.q49]
mutual
def T.zb.ok : T.zb → Prop
 | ⟨x0,x1,x2,x3,x4,x5,x6,x7⟩ => inI x0 ∧ jl x1 ∧ inI x2 ∧ jc x3 ∧ jc x4 ∧ T.Form.ok x5 ∧ (zw jl) x6 ∧ T.zb.okS x7 ∧ True
def T.zb.okS : Sl T.zb → Prop
 | ⟨b,l⟩ => (l.length ≤ maxLen ∧ (b = true → l = [])) ∧ T.zb.okL l
def T.zb.okL : List T.zb → Prop
 | [] => True
 | x :: r => x.ok ∧ T.zb.okL r
end
structure T.Range where
 span : T.Span
 fromRight : Bool
 toRight : Bool
 parent : Int
 deriving Inhabited,DecidableEq
def T.Range.enc (x : T.Range) : List PV :=
 [PV.int IntKind.i64 x.span.frm,PV.int IntKind.i64 x.span.to,PV.bool x.fromRight,PV.bool x.toRight,PV.int IntKind.i64 x.parent]
theorem T.Range.qd (x : T.Range) : x.enc = [PV.int IntKind.i64 x.span.frm,PV.int IntKind.i64 x.span.to,PV.bool x.fromRight,PV.bool x.toRight,PV.int IntKind.i64 x.parent] := rfl
def T.Range.ok (x : T.Range) : Prop := T.Span.ok x.span ∧ jc x.fromRight ∧ jc x.toRight ∧ inI x.parent ∧ True
structure T.q2w where
 part : T.zb
 end_ : Int
 ok_ : Bool
 deriving Inhabited
def T.q2w.enc (x : T.q2w) : List PV :=
 [PV.int IntKind.i64 x.part.kind,PV.str x.part.text,PV.int IntKind.i64 x.part.n,PV.bool x.part.has,PV.bool x.part.turned,PV.int IntKind.i64 x.part.form.rx.kind,PV.str x.part.form.rx.char,PV.bool x.part.form.rx.not,PV.sl x.part.form.rx.rows.nil (szc 2 x.part.form.rx.rows.l) (List.map T.Row.enc x.part.form.rx.rows.l),PV.int IntKind.i64 x.part.form.rx.min,PV.int IntKind.i64 x.part.form.rx.max,PV.bool x.part.form.rx.lazy,PV.sl x.part.form.rx.kids.nil (szc 8 x.part.form.rx.kids.l) (List.map T.Rx.enc x.part.form.rx.kids.l),PV.sl x.part.form.fmts.nil (szc 5 x.part.form.fmts.l) (List.map T.Fmt.enc x.part.form.fmts.l),PV.bool x.part.form.fold,PV.bool x.part.form.all,PV.sl x.part.opts.nil (szc 1 x.part.opts.l) (List.map zn x.part.opts.l),PV.sl x.part.kids.nil (szc 18 x.part.kids.l) (List.map T.zb.enc x.part.kids.l),PV.int IntKind.i64 x.end_,PV.bool x.ok_]
theorem T.q2w.qd (x : T.q2w) : x.enc = [PV.int IntKind.i64 x.part.kind,PV.str x.part.text,PV.int IntKind.i64 x.part.n,PV.bool x.part.has,PV.bool x.part.turned,PV.int IntKind.i64 x.part.form.rx.kind,PV.str x.part.form.rx.char,PV.bool x.part.form.rx.not,PV.sl x.part.form.rx.rows.nil (szc 2 x.part.form.rx.rows.l) (List.map T.Row.enc x.part.form.rx.rows.l),PV.int IntKind.i64 x.part.form.rx.min,PV.int IntKind.i64 x.part.form.rx.max,PV.bool x.part.form.rx.lazy,PV.sl x.part.form.rx.kids.nil (szc 8 x.part.form.rx.kids.l) (List.map T.Rx.enc x.part.form.rx.kids.l),PV.sl x.part.form.fmts.nil (szc 5 x.part.form.fmts.l) (List.map T.Fmt.enc x.part.form.fmts.l),PV.bool x.part.form.fold,PV.bool x.part.form.all,PV.sl x.part.opts.nil (szc 1 x.part.opts.l) (List.map zn x.part.opts.l),PV.sl x.part.kids.nil (szc 18 x.part.kids.l) (List.map T.zb.enc x.part.kids.l),PV.int IntKind.i64 x.end_,PV.bool x.ok_] := rfl
def T.q2w.ok (x : T.q2w) : Prop := T.zb.ok x.part ∧ inI x.end_ ∧ jc x.ok_ ∧ True
structure T.q3n where
 e : T.qb
 does : (Sl (Sl Int))
 inst : Int
 place : Int
 deriving Inhabited,DecidableEq
def T.q3n.enc (x : T.q3n) : List PV :=
 [PV.int IntKind.i64 x.e.span.frm,PV.int IntKind.i64 x.e.span.to,PV.str x.e.text,PV.sl x.does.nil (szc 1 x.does.l) (List.map (slE 1 yn) x.does.l),PV.int IntKind.i64 x.inst,PV.int IntKind.i64 x.place]
theorem T.q3n.qd (x : T.q3n) : x.enc = [PV.int IntKind.i64 x.e.span.frm,PV.int IntKind.i64 x.e.span.to,PV.str x.e.text,PV.sl x.does.nil (szc 1 x.does.l) (List.map (slE 1 yn) x.does.l),PV.int IntKind.i64 x.inst,PV.int IntKind.i64 x.place] := rfl
def T.q3n.ok (x : T.q3n) : Prop := T.qb.ok x.e ∧ (zw (zw inI)) x.does ∧ inI x.inst ∧ inI x.place ∧ True
structure T.q3m where
 span : T.Span
 parts : (Sl T.Span)
 deriving Inhabited,DecidableEq
def T.q3m.enc (x : T.q3m) : List PV :=
 [PV.int IntKind.i64 x.span.frm,PV.int IntKind.i64 x.span.to,PV.sl x.parts.nil (szc 2 x.parts.l) (List.map T.Span.enc x.parts.l)]
theorem T.q3m.qd (x : T.q3m) : x.enc = [PV.int IntKind.i64 x.span.frm,PV.int IntKind.i64 x.span.to,PV.sl x.parts.nil (szc 2 x.parts.l) (List.map T.Span.enc x.parts.l)] := rfl
def T.q3m.ok (x : T.q3m) : Prop := T.Span.ok x.span ∧ (zw T.Span.ok) x.parts ∧ True
structure T.zg where
 text : Bytes
 adapt : Bool
 stop : Bool
 turned : Bool
 form : T.Form
 n : Int
 first : Bool
 opts : (Sl Bytes)
 kids : (Sl T.zg)
 size : Int
 deriving Inhabited
mutual
def T.zg.enc : T.zg → List PV
 | ⟨x0,x1,x2,x3,x4,x5,x6,x7,x8,x9⟩ => [PV.str x0,PV.bool x1,PV.bool x2,PV.bool x3,PV.int IntKind.i64 x4.rx.kind,PV.str x4.rx.char,PV.bool x4.rx.not,PV.sl x4.rx.rows.nil (szc 2 x4.rx.rows.l) (List.map T.Row.enc x4.rx.rows.l),PV.int IntKind.i64 x4.rx.min,PV.int IntKind.i64 x4.rx.max,PV.bool x4.rx.lazy,PV.sl x4.rx.kids.nil (szc 8 x4.rx.kids.l) (List.map T.Rx.enc x4.rx.kids.l),PV.sl x4.fmts.nil (szc 5 x4.fmts.l) (List.map T.Fmt.enc x4.fmts.l),PV.bool x4.fold,PV.bool x4.all,PV.int IntKind.i64 x5,PV.bool x6,PV.sl x7.nil (szc 1 x7.l) (List.map zn x7.l),T.zg.encS x8,PV.int IntKind.i64 x9]
def T.zg.encS : Sl T.zg → PV
 | ⟨b,l⟩ => .sl b (szc 20 l) (T.zg.kz l)
def T.zg.kz : List T.zg → List (List PV)
 | [] => []
 | x :: r => x.enc :: T.zg.kz r
end
theorem T.zg.q0o : ∀ l : List T.zg,T.zg.kz l = l.map T.zg.enc
 | [] => rfl
 | x :: r => by simp [T.zg.kz,T.zg.q0o r]
theorem T.zg.q49 (s : Sl T.zg) : T.zg.encS s = .sl s.nil (szc 20 s.l) (s.l.map T.zg.enc) := by cases s; simp [T.zg.encS,T.zg.q0o]
theorem T.zg.qd (x : T.zg) : x.enc = [PV.str x.text,PV.bool x.adapt,PV.bool x.stop,PV.bool x.turned,PV.int IntKind.i64 x.form.rx.kind,PV.str x.form.rx.char,PV.bool x.form.rx.not,PV.sl x.form.rx.rows.nil (szc 2 x.form.rx.rows.l) (List.map T.Row.enc x.form.rx.rows.l),PV.int IntKind.i64 x.form.rx.min,PV.int IntKind.i64 x.form.rx.max,PV.bool x.form.rx.lazy,PV.sl x.form.rx.kids.nil (szc 8 x.form.rx.kids.l) (List.map T.Rx.enc x.form.rx.kids.l),PV.sl x.form.fmts.nil (szc 5 x.form.fmts.l) (List.map T.Fmt.enc x.form.fmts.l),PV.bool x.form.fold,PV.bool x.form.all,PV.int IntKind.i64 x.n,PV.bool x.first,PV.sl x.opts.nil (szc 1 x.opts.l) (List.map zn x.opts.l),PV.sl x.kids.nil (szc 20 x.kids.l) (List.map T.zg.enc x.kids.l),PV.int IntKind.i64 x.size] := by cases x; simp [T.zg.enc,T.zg.q49]
mutual
def T.zg.ok : T.zg → Prop
 | ⟨x0,x1,x2,x3,x4,x5,x6,x7,x8,x9⟩ => jl x0 ∧ jc x1 ∧ jc x2 ∧ jc x3 ∧ T.Form.ok x4 ∧ inI x5 ∧ jc x6 ∧ (zw jl) x7 ∧ T.zg.okS x8 ∧ inI x9 ∧ True
def T.zg.okS : Sl T.zg → Prop
 | ⟨b,l⟩ => (l.length ≤ maxLen ∧ (b = true → l = [])) ∧ T.zg.okL l
def T.zg.okL : List T.zg → Prop
 | [] => True
 | x :: r => x.ok ∧ T.zg.okL r
end
structure T.za where
 rx : T.Rx
 kids : (Sl T.za)
 lo : Int
 hi : Int
 deriving Inhabited
mutual
def T.za.enc : T.za → List PV
 | ⟨x0,x1,x2,x3⟩ => [PV.int IntKind.i64 x0.kind,PV.str x0.char,PV.bool x0.not,PV.sl x0.rows.nil (szc 2 x0.rows.l) (List.map T.Row.enc x0.rows.l),PV.int IntKind.i64 x0.min,PV.int IntKind.i64 x0.max,PV.bool x0.lazy,PV.sl x0.kids.nil (szc 8 x0.kids.l) (List.map T.Rx.enc x0.kids.l),T.za.encS x1,PV.int IntKind.i64 x2,PV.int IntKind.i64 x3]
def T.za.encS : Sl T.za → PV
 | ⟨b,l⟩ => .sl b (szc 11 l) (T.za.kz l)
def T.za.kz : List T.za → List (List PV)
 | [] => []
 | x :: r => x.enc :: T.za.kz r
end
theorem T.za.q0o : ∀ l : List T.za,T.za.kz l = l.map T.za.enc
 | [] => rfl
 | x :: r => by simp [T.za.kz,T.za.q0o r]
theorem T.za.q49 (s : Sl T.za) : T.za.encS s = .sl s.nil (szc 11 s.l) (s.l.map T.za.enc) := by cases s; simp [T.za.encS,T.za.q0o]
theorem T.za.qd (x : T.za) : x.enc = [PV.int IntKind.i64 x.rx.kind,PV.str x.rx.char,PV.bool x.rx.not,PV.sl x.rx.rows.nil (szc 2 x.rx.rows.l) (List.map T.Row.enc x.rx.rows.l),PV.int IntKind.i64 x.rx.min,PV.int IntKind.i64 x.rx.max,PV.bool x.rx.lazy,PV.sl x.rx.kids.nil (szc 8 x.rx.kids.l) (List.map T.Rx.enc x.rx.kids.l),PV.sl x.kids.nil (szc 11 x.kids.l) (List.map T.za.enc x.kids.l),PV.int IntKind.i64 x.lo,PV.int IntKind.i64 x.hi] := by cases x; simp [T.za.enc,T.za.q49]
mutual
def T.za.ok : T.za → Prop
 | ⟨x0,x1,x2,x3⟩ => T.Rx.ok x0 ∧ T.za.okS x1 ∧ inI x2 ∧ inI x3 ∧ True
def T.za.okS : Sl T.za → Prop
 | ⟨b,l⟩ => (l.length ≤ maxLen ∧ (b = true → l = [])) ∧ T.za.okL l
def T.za.okL : List T.za → Prop
 | [] => True
 | x :: r => x.ok ∧ T.za.okL r
end
structure T.q2v where
 top : T.za
 fold : Bool
 chars : (Sl Bytes)
 places : (Sl Int)
 parts : (Sl T.Span)
 fuel : Int
 out : Bool
 deriving Inhabited
def T.q2v.enc (x : T.q2v) : List PV :=
 [PV.int IntKind.i64 x.top.rx.kind,PV.str x.top.rx.char,PV.bool x.top.rx.not,PV.sl x.top.rx.rows.nil (szc 2 x.top.rx.rows.l) (List.map T.Row.enc x.top.rx.rows.l),PV.int IntKind.i64 x.top.rx.min,PV.int IntKind.i64 x.top.rx.max,PV.bool x.top.rx.lazy,PV.sl x.top.rx.kids.nil (szc 8 x.top.rx.kids.l) (List.map T.Rx.enc x.top.rx.kids.l),PV.sl x.top.kids.nil (szc 11 x.top.kids.l) (List.map T.za.enc x.top.kids.l),PV.int IntKind.i64 x.top.lo,PV.int IntKind.i64 x.top.hi,PV.bool x.fold,PV.sl x.chars.nil (szc 1 x.chars.l) (List.map zn x.chars.l),PV.sl x.places.nil (szc 1 x.places.l) (List.map yn x.places.l),PV.sl x.parts.nil (szc 2 x.parts.l) (List.map T.Span.enc x.parts.l),PV.int IntKind.i64 x.fuel,PV.bool x.out]
theorem T.q2v.qd (x : T.q2v) : x.enc = [PV.int IntKind.i64 x.top.rx.kind,PV.str x.top.rx.char,PV.bool x.top.rx.not,PV.sl x.top.rx.rows.nil (szc 2 x.top.rx.rows.l) (List.map T.Row.enc x.top.rx.rows.l),PV.int IntKind.i64 x.top.rx.min,PV.int IntKind.i64 x.top.rx.max,PV.bool x.top.rx.lazy,PV.sl x.top.rx.kids.nil (szc 8 x.top.rx.kids.l) (List.map T.Rx.enc x.top.rx.kids.l),PV.sl x.top.kids.nil (szc 11 x.top.kids.l) (List.map T.za.enc x.top.kids.l),PV.int IntKind.i64 x.top.lo,PV.int IntKind.i64 x.top.hi,PV.bool x.fold,PV.sl x.chars.nil (szc 1 x.chars.l) (List.map zn x.chars.l),PV.sl x.places.nil (szc 1 x.places.l) (List.map yn x.places.l),PV.sl x.parts.nil (szc 2 x.parts.l) (List.map T.Span.enc x.parts.l),PV.int IntKind.i64 x.fuel,PV.bool x.out] := rfl
def T.q2v.ok (x : T.q2v) : Prop := T.za.ok x.top ∧ jc x.fold ∧ (zw jl) x.chars ∧ (zw inI) x.places ∧ (zw T.Span.ok) x.parts ∧ inI x.fuel ∧ jc x.out ∧ True
structure T.q3y where
 text : Bytes
 deriving Inhabited,DecidableEq
def T.q3y.enc (x : T.q3y) : List PV :=
 [PV.str x.text]
theorem T.q3y.qd (x : T.q3y) : x.enc = [PV.str x.text] := rfl
def T.q3y.ok (x : T.q3y) : Prop := jl x.text ∧ True
structure T.q1d where
 all : (Sl Bytes)
 at_ : Int
 deriving Inhabited,DecidableEq
def T.q1d.enc (x : T.q1d) : List PV :=
 [PV.sl x.all.nil (szc 1 x.all.l) (List.map zn x.all.l),PV.int IntKind.i64 x.at_]
theorem T.q1d.qd (x : T.q1d) : x.enc = [PV.sl x.all.nil (szc 1 x.all.l) (List.map zn x.all.l),PV.int IntKind.i64 x.at_] := rfl
def T.q1d.ok (x : T.q1d) : Prop := (zw jl) x.all ∧ inI x.at_ ∧ True
structure T.q3c where
 place : T.q1d
 deep : Int
 deriving Inhabited,DecidableEq
def T.q3c.enc (x : T.q3c) : List PV :=
 [PV.sl x.place.all.nil (szc 1 x.place.all.l) (List.map zn x.place.all.l),PV.int IntKind.i64 x.place.at_,PV.int IntKind.i64 x.deep]
theorem T.q3c.qd (x : T.q3c) : x.enc = [PV.sl x.place.all.nil (szc 1 x.place.all.l) (List.map zn x.place.all.l),PV.int IntKind.i64 x.place.at_,PV.int IntKind.i64 x.deep] := rfl
def T.q3c.ok (x : T.q3c) : Prop := T.q1d.ok x.place ∧ inI x.deep ∧ True
def q8w (n : Int) : Option Bytes := if -9223372036854775808 ≤ n ∧ n ≤ 9223372036854775807 then some (Go.Lib.itoa n) else none
def aw7 : Option Bool := some true
theorem yx {α : Type} {u0 u1 : Bool} {p q : Option α} {r : α} {P : Prop} (f : u0 = true → u1 = true → p = some r → P) (g : ((u0 = false ∧ Dum) ∨ (u0 = true ∧ u1 = false)) → q = some r → P) (h : (if (u0 && u1) = true then p else q) = some r) : P := by cases u0 <;> cases u1 <;> simp_all [Dum]
theorem zdf {α : Type} {u0 u1 u2 u3 u4 : Bool} {p q : Option α} {r : α} {P : Prop} (f : u0 = true → u1 = true → u2 = true → u3 = true → u4 = true → p = some r → P) (g : ((u0 = false ∧ Dum ∧ Dum ∧ Dum ∧ Dum) ∨ (u0 = true ∧ u1 = false ∧ Dum ∧ Dum ∧ Dum) ∨ (u0 = true ∧ u1 = true ∧ u2 = false ∧ Dum ∧ Dum) ∨ (u0 = true ∧ u1 = true ∧ u2 = true ∧ u3 = false ∧ Dum) ∨ (u0 = true ∧ u1 = true ∧ u2 = true ∧ u3 = true ∧ u4 = false)) → q = some r → P) (h : (if (u0 && (u1 && (u2 && (u3 && u4)))) = true then p else q) = some r) : P := by cases u0 <;> cases u1 <;> cases u2 <;> cases u3 <;> cases u4 <;> simp_all [Dum]
theorem z8z {α : Type} {u0 u1 u2 u3 u4 u5 u6 u7 : Bool} {p q : Option α} {r : α} {P : Prop} (f : u0 = true → u1 = true → u2 = true → u3 = true → u4 = true → u5 = true → u6 = true → u7 = true → p = some r → P) (g : ((u0 = false ∧ Dum ∧ Dum ∧ Dum ∧ Dum ∧ Dum ∧ Dum ∧ Dum) ∨ (u0 = true ∧ u1 = false ∧ Dum ∧ Dum ∧ Dum ∧ Dum ∧ Dum ∧ Dum) ∨ (u0 = true ∧ u1 = true ∧ u2 = false ∧ Dum ∧ Dum ∧ Dum ∧ Dum ∧ Dum) ∨ (u0 = true ∧ u1 = true ∧ u2 = true ∧ u3 = false ∧ Dum ∧ Dum ∧ Dum ∧ Dum) ∨ (u0 = true ∧ u1 = true ∧ u2 = true ∧ u3 = true ∧ u4 = false ∧ Dum ∧ Dum ∧ Dum) ∨ (u0 = true ∧ u1 = true ∧ u2 = true ∧ u3 = true ∧ u4 = true ∧ u5 = false ∧ Dum ∧ Dum) ∨ (u0 = true ∧ u1 = true ∧ u2 = true ∧ u3 = true ∧ u4 = true ∧ u5 = true ∧ u6 = false ∧ Dum) ∨ (u0 = true ∧ u1 = true ∧ u2 = true ∧ u3 = true ∧ u4 = true ∧ u5 = true ∧ u6 = true ∧ u7 = false)) → q = some r → P) (h : (if (u0 && (u1 && (u2 && (u3 && (u4 && (u5 && (u6 && u7))))))) = true then p else q) = some r) : P := by cases u0 <;> cases u1 <;> cases u2 <;> cases u3 <;> cases u4 <;> cases u5 <;> cases u6 <;> cases u7 <;> simp_all [Dum]
theorem q94 {α : Type} {u0 u1 : Bool} {p q : Option α} {r : α} {P : Prop} (f : ((u0 = true ∧ Dum) ∨ (u0 = false ∧ u1 = true)) → p = some r → P) (g : u0 = false → u1 = false → q = some r → P) (h : (if (u0 || u1) = true then p else q) = some r) : P := by cases u0 <;> cases u1 <;> simp_all [Dum]
theorem qxb {α : Type} {u0 u1 u2 : Bool} {p q : Option α} {r : α} {P : Prop} (f : ((u0 = true ∧ Dum ∧ Dum) ∨ (u0 = false ∧ u1 = true ∧ Dum) ∨ (u0 = false ∧ u1 = false ∧ u2 = true)) → p = some r → P) (g : u0 = false → u1 = false → u2 = false → q = some r → P) (h : (if (u0 || (u1 || u2)) = true then p else q) = some r) : P := by cases u0 <;> cases u1 <;> cases u2 <;> simp_all [Dum]
theorem zjh (n : Nat) : 0 + n = n := Nat.zero_add n
def en := PLift.up (And.intro (And.intro (And.intro (And.intro (And.intro qqk.down z7w.down) (And.intro @zjh (And.intro @Int.cast_ofNat_Int @List.append_nil.{0}))) (And.intro (And.intro @List.nil_append.{0} @List.cons_append.{0}) (And.intro @T.Span.qd (And.intro @T.qb.qd @T.Sel.qd)))) (And.intro (And.intro (And.intro @T.Op.qd @T.yo.qd) (And.intro @T.qc.qd (And.intro @T.Row.qd @T.Rx.qd))) (And.intro (And.intro @T.Fmt.qd @T.Form.qd) (And.intro @T.Stop.qd (And.intro @T.uy.qd @T.gq.qd))))) (And.intro (And.intro (And.intro (And.intro @T.State.qd @T.q42.qd) (And.intro @T.q3i.qd (And.intro @T.q3a.qd @T.q41.qd))) (And.intro (And.intro @T.q2t.qd @T.mi.qd) (And.intro @T.q02.qd (And.intro @T.q3l.qd @T.zb.qd)))) (And.intro (And.intro (And.intro @T.Range.qd @T.q2w.qd) (And.intro @T.q3n.qd (And.intro @T.q3m.qd @T.zg.qd))) (And.intro (And.intro @T.za.qd @T.q2v.qd) (And.intro @T.q3y.qd (And.intro @T.q1d.qd @T.q3c.qd))))))
end Go.Proofs.YtaglodpkpggdiaaGreatDoor
