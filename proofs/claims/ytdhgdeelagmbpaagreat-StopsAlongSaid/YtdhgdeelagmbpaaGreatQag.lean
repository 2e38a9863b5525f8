/-
  Go's structs as Lean's.
-/
import Derived.Test.YtdhgdeelagmbpaaGreatQad
set_option linter.unusedSimpArgs false
set_option linter.unusedVariables false
set_option maxRecDepth 100000
namespace Go.Proofs.YtdhgdeelagmbpaaGreat
open Go Go.Gm
structure T.Span where
 frm : Int
 to : Int
 deriving Inhabited,DecidableEq
def T.Span.enc (x : T.Span) : List PV :=
 [PV.int IntKind.i64 x.frm,PV.int IntKind.i64 x.to]
theorem T.Span.za (x : T.Span) : x.enc = [PV.int IntKind.i64 x.frm,PV.int IntKind.i64 x.to] := rfl
def T.Span.ok (x : T.Span) : Prop := inI x.frm ∧ inI x.to ∧ True
structure T.Row where
 frm : Bytes
 to : Bytes
 deriving Inhabited,DecidableEq
def T.Row.enc (x : T.Row) : List PV :=
 [PV.str x.frm,PV.str x.to]
theorem T.Row.za (x : T.Row) : x.enc = [PV.str x.frm,PV.str x.to] := rfl
def T.Row.ok (x : T.Row) : Prop := yo x.frm ∧ yo x.to ∧ True
structure T.Rx where
 kind : Int
 char : Bytes
 not : Bool
 rows : (Sl T.Row)
 min : Int
 max : Int
 lazy : Bool
 kids : (Sl T.Rx)
 deriving Inhabited
mutual
def T.Rx.enc : T.Rx → List PV
 | ⟨x0,x1,x2,x3,x4,x5,x6,x7⟩ => [PV.int IntKind.i64 x0,PV.str x1,PV.bool x2,PV.sl x3.nil (szc 2 x3.l) (List.map T.Row.enc x3.l),PV.int IntKind.i64 x4,PV.int IntKind.i64 x5,PV.bool x6,T.Rx.encS x7]
def T.Rx.encS : Sl T.Rx → PV
 | ⟨b,l⟩ => .sl b (szc 8 l) (T.Rx.q3d l)
def T.Rx.q3d : List T.Rx → List (List PV)
 | [] => []
 | x :: r => x.enc :: T.Rx.q3d r
end
theorem T.Rx.qd8 : ∀ l : List T.Rx,T.Rx.q3d l = l.map T.Rx.enc
 | [] => rfl
 | x :: r => by simp [T.Rx.q3d,T.Rx.qd8 r]
theorem T.Rx.qj8 (s : Sl T.Rx) : T.Rx.encS s = .sl s.nil (szc 8 s.l) (s.l.map T.Rx.enc) := by cases s; simp [T.Rx.encS,T.Rx.qd8]
theorem T.Rx.za (x : T.Rx) : x.enc = [PV.int IntKind.i64 x.kind,PV.str x.char,PV.bool x.not,PV.sl x.rows.nil (szc 2 x.rows.l) (List.map T.Row.enc x.rows.l),PV.int IntKind.i64 x.min,PV.int IntKind.i64 x.max,PV.bool x.lazy,PV.sl x.kids.nil (szc 8 x.kids.l) (List.map T.Rx.enc x.kids.l)] := by cases x; simp [T.Rx.enc,T.Rx.qj8]
mutual
def T.Rx.ok : T.Rx → Prop
 | ⟨x0,x1,x2,x3,x4,x5,x6,x7⟩ => inI x0 ∧ yo x1 ∧ q08 x2 ∧ (yx T.Row.ok) x3 ∧ inI x4 ∧ inI x5 ∧ q08 x6 ∧ T.Rx.okS x7 ∧ True
def T.Rx.okS : Sl T.Rx → Prop
 | ⟨b,l⟩ => (l.length ≤ maxLen ∧ (b = true → l = [])) ∧ T.Rx.okL l
def T.Rx.okL : List T.Rx → Prop
 | [] => True
 | x :: r => x.ok ∧ T.Rx.okL r
end
structure T.Fmt where
 kind : Int
 n : Int
 cas : Int
 thn : Bytes
 els : Bytes
 deriving Inhabited,DecidableEq
def T.Fmt.enc (x : T.Fmt) : List PV :=
 [PV.int IntKind.i64 x.kind,PV.int IntKind.i64 x.n,PV.int IntKind.i64 x.cas,PV.str x.thn,PV.str x.els]
theorem T.Fmt.za (x : T.Fmt) : x.enc = [PV.int IntKind.i64 x.kind,PV.int IntKind.i64 x.n,PV.int IntKind.i64 x.cas,PV.str x.thn,PV.str x.els] := rfl
def T.Fmt.ok (x : T.Fmt) : Prop := inI x.kind ∧ inI x.n ∧ inI x.cas ∧ yo x.thn ∧ yo x.els ∧ True
structure T.Form where
 rx : T.Rx
 fmts : (Sl T.Fmt)
 fold : Bool
 all : Bool
 deriving Inhabited
def T.Form.enc (x : T.Form) : List PV :=
 [PV.int IntKind.i64 x.rx.kind,PV.str x.rx.char,PV.bool x.rx.not,PV.sl x.rx.rows.nil (szc 2 x.rx.rows.l) (List.map T.Row.enc x.rx.rows.l),PV.int IntKind.i64 x.rx.min,PV.int IntKind.i64 x.rx.max,PV.bool x.rx.lazy,PV.sl x.rx.kids.nil (szc 8 x.rx.kids.l) (List.map T.Rx.enc x.rx.kids.l),PV.sl x.fmts.nil (szc 5 x.fmts.l) (List.map T.Fmt.enc x.fmts.l),PV.bool x.fold,PV.bool x.all]
theorem T.Form.za (x : T.Form) : x.enc = [PV.int IntKind.i64 x.rx.kind,PV.str x.rx.char,PV.bool x.rx.not,PV.sl x.rx.rows.nil (szc 2 x.rx.rows.l) (List.map T.Row.enc x.rx.rows.l),PV.int IntKind.i64 x.rx.min,PV.int IntKind.i64 x.rx.max,PV.bool x.rx.lazy,PV.sl x.rx.kids.nil (szc 8 x.rx.kids.l) (List.map T.Rx.enc x.rx.kids.l),PV.sl x.fmts.nil (szc 5 x.fmts.l) (List.map T.Fmt.enc x.fmts.l),PV.bool x.fold,PV.bool x.all] := rfl
def T.Form.ok (x : T.Form) : Prop := T.Rx.ok x.rx ∧ (yx T.Fmt.ok) x.fmts ∧ q08 x.fold ∧ q08 x.all ∧ True
structure T.Stop where
 span : T.Span
 n : Int
 up : Int
 first : Bool
 turned : Bool
 form : T.Form
 opts : (Sl Bytes)
 deriving Inhabited
def T.Stop.enc (x : T.Stop) : List PV :=
 [PV.int IntKind.i64 x.span.frm,PV.int IntKind.i64 x.span.to,PV.int IntKind.i64 x.n,PV.int IntKind.i64 x.up,PV.bool x.first,PV.bool x.turned,PV.int IntKind.i64 x.form.rx.kind,PV.str x.form.rx.char,PV.bool x.form.rx.not,PV.sl x.form.rx.rows.nil (szc 2 x.form.rx.rows.l) (List.map T.Row.enc x.form.rx.rows.l),PV.int IntKind.i64 x.form.rx.min,PV.int IntKind.i64 x.form.rx.max,PV.bool x.form.rx.lazy,PV.sl x.form.rx.kids.nil (szc 8 x.form.rx.kids.l) (List.map T.Rx.enc x.form.rx.kids.l),PV.sl x.form.fmts.nil (szc 5 x.form.fmts.l) (List.map T.Fmt.enc x.form.fmts.l),PV.bool x.form.fold,PV.bool x.form.all,PV.sl x.opts.nil (szc 1 x.opts.l) (List.map qh x.opts.l)]
theorem T.Stop.za (x : T.Stop) : x.enc = [PV.int IntKind.i64 x.span.frm,PV.int IntKind.i64 x.span.to,PV.int IntKind.i64 x.n,PV.int IntKind.i64 x.up,PV.bool x.first,PV.bool x.turned,PV.int IntKind.i64 x.form.rx.kind,PV.str x.form.rx.char,PV.bool x.form.rx.not,PV.sl x.form.rx.rows.nil (szc 2 x.form.rx.rows.l) (List.map T.Row.enc x.form.rx.rows.l),PV.int IntKind.i64 x.form.rx.min,PV.int IntKind.i64 x.form.rx.max,PV.bool x.form.rx.lazy,PV.sl x.form.rx.kids.nil (szc 8 x.form.rx.kids.l) (List.map T.Rx.enc x.form.rx.kids.l),PV.sl x.form.fmts.nil (szc 5 x.form.fmts.l) (List.map T.Fmt.enc x.form.fmts.l),PV.bool x.form.fold,PV.bool x.form.all,PV.sl x.opts.nil (szc 1 x.opts.l) (List.map qh x.opts.l)] := rfl
def T.Stop.ok (x : T.Stop) : Prop := T.Span.ok x.span ∧ inI x.n ∧ inI x.up ∧ q08 x.first ∧ q08 x.turned ∧ T.Form.ok x.form ∧ (yx yo) x.opts ∧ True
structure T.qj where
 span : T.Span
 stops : (Sl T.Stop)
 deriving Inhabited
def T.qj.enc (x : T.qj) : List PV :=
 [PV.int IntKind.i64 x.span.frm,PV.int IntKind.i64 x.span.to,PV.sl x.stops.nil (szc 18 x.stops.l) (List.map T.Stop.enc x.stops.l)]
theorem T.qj.za (x : T.qj) : x.enc = [PV.int IntKind.i64 x.span.frm,PV.int IntKind.i64 x.span.to,PV.sl x.stops.nil (szc 18 x.stops.l) (List.map T.Stop.enc x.stops.l)] := rfl
def T.qj.ok (x : T.qj) : Prop := T.Span.ok x.span ∧ (yx T.Stop.ok) x.stops ∧ True
structure T.qb where
 kind : Int
 text : Bytes
 n : Int
 has : Bool
 turned : Bool
 form : T.Form
 opts : (Sl Bytes)
 kids : (Sl T.qb)
 deriving Inhabited
mutual
def T.qb.enc : T.qb → List PV
 | ⟨x0,x1,x2,x3,x4,x5,x6,x7⟩ => [PV.int IntKind.i64 x0,PV.str x1,PV.int IntKind.i64 x2,PV.bool x3,PV.bool x4,PV.int IntKind.i64 x5.rx.kind,PV.str x5.rx.char,PV.bool x5.rx.not,PV.sl x5.rx.rows.nil (szc 2 x5.rx.rows.l) (List.map T.Row.enc x5.rx.rows.l),PV.int IntKind.i64 x5.rx.min,PV.int IntKind.i64 x5.rx.max,PV.bool x5.rx.lazy,PV.sl x5.rx.kids.nil (szc 8 x5.rx.kids.l) (List.map T.Rx.enc x5.rx.kids.l),PV.sl x5.fmts.nil (szc 5 x5.fmts.l) (List.map T.Fmt.enc x5.fmts.l),PV.bool x5.fold,PV.bool x5.all,PV.sl x6.nil (szc 1 x6.l) (List.map qh x6.l),T.qb.encS x7]
def T.qb.encS : Sl T.qb → PV
 | ⟨b,l⟩ => .sl b (szc 18 l) (T.qb.q3d l)
def T.qb.q3d : List T.qb → List (List PV)
 | [] => []
 | x :: r => x.enc :: T.qb.q3d r
end
theorem T.qb.qd8 : ∀ l : List T.qb,T.qb.q3d l = l.map T.qb.enc
 | [] => rfl
 | x :: r => by simp [T.qb.q3d,T.qb.qd8 r]
theorem T.qb.qj8 (s : Sl T.qb) : T.qb.encS s = .sl s.nil (szc 18 s.l) (s.l.map T.qb.enc) := by cases s; simp [T.qb.encS,T.qb.qd8]
theorem T.qb.za (x : T.qb) : x.enc = [PV.int IntKind.i64 x.kind,PV.str x.text,PV.int IntKind.i64 x.n,PV.bool x.has,PV.bool x.turned,PV.int IntKind.i64 x.form.rx.kind,PV.str x.form.rx.char,PV.bool x.form.rx.not,PV.sl x.form.rx.rows.nil (szc 2 x.form.rx.rows.l) (List.map T.Row.enc x.form.rx.rows.l),PV.int IntKind.i64 x.form.rx.min,PV.int IntKind.i64 x.form.rx.max,PV.bool x.form.rx.lazy,PV.sl x.form.rx.kids.nil (szc 8 x.form.rx.kids.l) (List.map T.Rx.enc x.form.rx.kids.l),PV.sl x.form.fmts.nil (szc 5 x.form.fmts.l) (List.map T.Fmt.enc x.form.fmts.l),PV.bool x.form.fold,PV.bool x.form.all,PV.sl x.opts.nil (szc 1 x.opts.l) (List.map qh x.opts.l),PV.sl x.kids.nil (szc 18 x.kids.l) (List.map T.qb.enc x.kids.l)] := by cases x; simp [T.qb.enc,T.qb.qj8]
mutual
def T.qb.ok : T.qb → Prop
 | ⟨x0,x1,x2,x3,x4,x5,x6,x7⟩ => inI x0 ∧ yo x1 ∧ inI x2 ∧ q08 x3 ∧ q08 x4 ∧ T.Form.ok x5 ∧ (yx yo) x6 ∧ T.qb.okS x7 ∧ True
def T.qb.okS : Sl T.qb → Prop
 | ⟨b,l⟩ => (l.length ≤ maxLen ∧ (b = true → l = [])) ∧ T.qb.okL l
def T.qb.okL : List T.qb → Prop
 | [] => True
 | x :: r => x.ok ∧ T.qb.okL r
end
structure T.q4w where
 s : Bytes
 what : (Sl T.qb)
 ends : (Sl Int)
 deriving Inhabited
def T.q4w.enc (x : T.q4w) : List PV :=
 [PV.str x.s,PV.sl x.what.nil (szc 18 x.what.l) (List.map T.qb.enc x.what.l),PV.sl x.ends.nil (szc 1 x.ends.l) (List.map qc x.ends.l)]
theorem T.q4w.za (x : T.q4w) : x.enc = [PV.str x.s,PV.sl x.what.nil (szc 18 x.what.l) (List.map T.qb.enc x.what.l),PV.sl x.ends.nil (szc 1 x.ends.l) (List.map qc x.ends.l)] := rfl
def T.q4w.ok (x : T.q4w) : Prop := yo x.s ∧ (yx T.qb.ok) x.what ∧ (yx inI) x.ends ∧ True
structure T.qi where
 name : Bytes
 value : Bytes
 deriving Inhabited,DecidableEq
def T.qi.enc (x : T.qi) : List PV :=
 [PV.str x.name,PV.str x.value]
theorem T.qi.za (x : T.qi) : x.enc = [PV.str x.name,PV.str x.value] := rfl
def T.qi.ok (x : T.qi) : Prop := yo x.name ∧ yo x.value ∧ True
structure T.qf where
 kind : Int
 text : Bytes
 n : Int
 def_ : Bool
 first : Bool
 turned : Bool
 form : T.Form
 opts : (Sl Bytes)
 up : Int
 end_ : Int
 deriving Inhabited
def T.qf.enc (x : T.qf) : List PV :=
 [PV.int IntKind.i64 x.kind,PV.str x.text,PV.int IntKind.i64 x.n,PV.bool x.def_,PV.bool x.first,PV.bool x.turned,PV.int IntKind.i64 x.form.rx.kind,PV.str x.form.rx.char,PV.bool x.form.rx.not,PV.sl x.form.rx.rows.nil (szc 2 x.form.rx.rows.l) (List.map T.Row.enc x.form.rx.rows.l),PV.int IntKind.i64 x.form.rx.min,PV.int IntKind.i64 x.form.rx.max,PV.bool x.form.rx.lazy,PV.sl x.form.rx.kids.nil (szc 8 x.form.rx.kids.l) (List.map T.Rx.enc x.form.rx.kids.l),PV.sl x.form.fmts.nil (szc 5 x.form.fmts.l) (List.map T.Fmt.enc x.form.fmts.l),PV.bool x.form.fold,PV.bool x.form.all,PV.sl x.opts.nil (szc 1 x.opts.l) (List.map qh x.opts.l),PV.int IntKind.i64 x.up,PV.int IntKind.i64 x.end_]
theorem T.qf.za (x : T.qf) : x.enc = [PV.int IntKind.i64 x.kind,PV.str x.text,PV.int IntKind.i64 x.n,PV.bool x.def_,PV.bool x.first,PV.bool x.turned,PV.int IntKind.i64 x.form.rx.kind,PV.str x.form.rx.char,PV.bool x.form.rx.not,PV.sl x.form.rx.rows.nil (szc 2 x.form.rx.rows.l) (List.map T.Row.enc x.form.rx.rows.l),PV.int IntKind.i64 x.form.rx.min,PV.int IntKind.i64 x.form.rx.max,PV.bool x.form.rx.lazy,PV.sl x.form.rx.kids.nil (szc 8 x.form.rx.kids.l) (List.map T.Rx.enc x.form.rx.kids.l),PV.sl x.form.fmts.nil (szc 5 x.form.fmts.l) (List.map T.Fmt.enc x.form.fmts.l),PV.bool x.form.fold,PV.bool x.form.all,PV.sl x.opts.nil (szc 1 x.opts.l) (List.map qh x.opts.l),PV.int IntKind.i64 x.up,PV.int IntKind.i64 x.end_] := rfl
def T.qf.ok (x : T.qf) : Prop := inI x.kind ∧ yo x.text ∧ inI x.n ∧ q08 x.def_ ∧ q08 x.first ∧ q08 x.turned ∧ T.Form.ok x.form ∧ (yx yo) x.opts ∧ inI x.up ∧ inI x.end_ ∧ True
structure T.q5w where
 env : (Sl T.qi)
 lead : Bytes
 unit : Bytes
 parts : (Sl T.qf)
 defs : (Sl Int)
 names : (Sl Bytes)
 deriving Inhabited
def T.q5w.enc (x : T.q5w) : List PV :=
 [PV.sl x.env.nil (szc 2 x.env.l) (List.map T.qi.enc x.env.l),PV.str x.lead,PV.str x.unit,PV.sl x.parts.nil (szc 20 x.parts.l) (List.map T.qf.enc x.parts.l),PV.sl x.defs.nil (szc 1 x.defs.l) (List.map qc x.defs.l),PV.sl x.names.nil (szc 1 x.names.l) (List.map qh x.names.l)]
theorem T.q5w.za (x : T.q5w) : x.enc = [PV.sl x.env.nil (szc 2 x.env.l) (List.map T.qi.enc x.env.l),PV.str x.lead,PV.str x.unit,PV.sl x.parts.nil (szc 20 x.parts.l) (List.map T.qf.enc x.parts.l),PV.sl x.defs.nil (szc 1 x.defs.l) (List.map qc x.defs.l),PV.sl x.names.nil (szc 1 x.names.l) (List.map qh x.names.l)] := rfl
def T.q5w.ok (x : T.q5w) : Prop := (yx T.qi.ok) x.env ∧ yo x.lead ∧ yo x.unit ∧ (yx T.qf.ok) x.parts ∧ (yx inI) x.defs ∧ (yx yo) x.names ∧ True
structure T.q4q where
 ns : (Sl Int)
 ts : (Sl Bytes)
 deriving Inhabited,DecidableEq
def T.q4q.enc (x : T.q4q) : List PV :=
 [PV.sl x.ns.nil (szc 1 x.ns.l) (List.map qc x.ns.l),PV.sl x.ts.nil (szc 1 x.ts.l) (List.map qh x.ts.l)]
theorem T.q4q.za (x : T.q4q) : x.enc = [PV.sl x.ns.nil (szc 1 x.ns.l) (List.map qc x.ns.l),PV.sl x.ts.nil (szc 1 x.ts.l) (List.map qh x.ts.l)] := rfl
def T.q4q.ok (x : T.q4q) : Prop := (yx inI) x.ns ∧ (yx yo) x.ts ∧ True
structure T.qo where
 cs : (Sl Bytes)
 at_ : Int
 deriving Inhabited,DecidableEq
def T.qo.enc (x : T.qo) : List PV :=
 [PV.sl x.cs.nil (szc 1 x.cs.l) (List.map qh x.cs.l),PV.int IntKind.i64 x.at_]
theorem T.qo.za (x : T.qo) : x.enc = [PV.sl x.cs.nil (szc 1 x.cs.l) (List.map qh x.cs.l),PV.int IntKind.i64 x.at_] := rfl
def T.qo.ok (x : T.qo) : Prop := (yx yo) x.cs ∧ inI x.at_ ∧ True
structure T.qw where
 span : T.Span
 parts : (Sl T.Span)
 deriving Inhabited,DecidableEq
def T.qw.enc (x : T.qw) : List PV :=
 [PV.int IntKind.i64 x.span.frm,PV.int IntKind.i64 x.span.to,PV.sl x.parts.nil (szc 2 x.parts.l) (List.map T.Span.enc x.parts.l)]
theorem T.qw.za (x : T.qw) : x.enc = [PV.int IntKind.i64 x.span.frm,PV.int IntKind.i64 x.span.to,PV.sl x.parts.nil (szc 2 x.parts.l) (List.map T.Span.enc x.parts.l)] := rfl
def T.qw.ok (x : T.qw) : Prop := T.Span.ok x.span ∧ (yx T.Span.ok) x.parts ∧ True
structure T.qp where
 cs : (Sl Bytes)
 offs : (Sl Int)
 fold : Bool
 fuel : Int
 out : Bool
 deriving Inhabited,DecidableEq
def T.qp.enc (x : T.qp) : List PV :=
 [PV.sl x.cs.nil (szc 1 x.cs.l) (List.map qh x.cs.l),PV.sl x.offs.nil (szc 1 x.offs.l) (List.map qc x.offs.l),PV.bool x.fold,PV.int IntKind.i64 x.fuel,PV.bool x.out]
theorem T.qp.za (x : T.qp) : x.enc = [PV.sl x.cs.nil (szc 1 x.cs.l) (List.map qh x.cs.l),PV.sl x.offs.nil (szc 1 x.offs.l) (List.map qc x.offs.l),PV.bool x.fold,PV.int IntKind.i64 x.fuel,PV.bool x.out] := rfl
def T.qp.ok (x : T.qp) : Prop := (yx yo) x.cs ∧ (yx inI) x.offs ∧ q08 x.fold ∧ inI x.fuel ∧ q08 x.out ∧ True
structure T.qy where
 kind : Int
 x : T.Rx
 g : Int
 many : Int
 frm : Int
 rest : (Option T.qy)
 deriving Inhabited
mutual
def T.qy.enc : T.qy → List PV
 | ⟨x0,x1,x2,x3,x4,x5⟩ => [PV.int IntKind.i64 x0,PV.int IntKind.i64 x1.kind,PV.str x1.char,PV.bool x1.not,PV.sl x1.rows.nil (szc 2 x1.rows.l) (List.map T.Row.enc x1.rows.l),PV.int IntKind.i64 x1.min,PV.int IntKind.i64 x1.max,PV.bool x1.lazy,PV.sl x1.kids.nil (szc 8 x1.kids.l) (List.map T.Rx.enc x1.kids.l),PV.int IntKind.i64 x2,PV.int IntKind.i64 x3,PV.int IntKind.i64 x4,T.qy.jq x5]
def T.qy.jq : Option T.qy → PV
 | none => .nilptr
 | some x => .rp x.enc
end
theorem T.qy.qlo : T.qy.jq none = .nilptr := by simp [T.qy.jq]
theorem T.qy.qhb (x : T.qy) : T.qy.jq (some x) = .rp x.enc := by simp [T.qy.jq]
theorem T.qy.q7w {k : Option T.qy} {x : T.qy} (h : k = some x) : T.qy.jq k = .rp x.enc := by rw [h,T.qy.qhb]
theorem T.qy.qog (k : Option T.qy) (H : Heap) : jf .ptr (.pv (T.qy.jq k)) H = some k.isNone := by cases k <;> simp [T.qy.jq,jf]
theorem T.qy.qqq (k : Option T.qy) : AV.cells (.pv (T.qy.jq k)) = [.pv (T.qy.jq k)] := by cases k <;> simp [T.qy.jq,AV.cells]
theorem T.qy.z5u (k : Option T.qy) (esz : TypeId → Option TI) (sz b : Nat) (z : List PV) (e : Bool) (H : Heap) : q3g esz .eql ⟨sz,b,.ptr,z,e⟩ (.pv (T.qy.jq k)) (.pv .nilptr) H = some (.bool (k.isNone)) := by cases k <;> simp [T.qy.jq,q3g,aEq,qae,jf]
theorem T.qy.za (x : T.qy) : x.enc = [PV.int IntKind.i64 x.kind,PV.int IntKind.i64 x.x.kind,PV.str x.x.char,PV.bool x.x.not,PV.sl x.x.rows.nil (szc 2 x.x.rows.l) (List.map T.Row.enc x.x.rows.l),PV.int IntKind.i64 x.x.min,PV.int IntKind.i64 x.x.max,PV.bool x.x.lazy,PV.sl x.x.kids.nil (szc 8 x.x.kids.l) (List.map T.Rx.enc x.x.kids.l),PV.int IntKind.i64 x.g,PV.int IntKind.i64 x.many,PV.int IntKind.i64 x.frm,T.qy.jq x.rest] := by cases x; simp [T.qy.enc]
def T.qy.ok (_ : T.qy) : Prop := True
def aw8 : Option Bool := some true
theorem zw {α : Type} {u0 u1 : Bool} {p q : Option α} {r : α} {P : Prop} (f : u0 = true → u1 = true → p = some r → P) (g : ((u0 = false ∧ Dum) ∨ (u0 = true ∧ u1 = false)) → q = some r → P) (h : (if (u0 && u1) = true then p else q) = some r) : P := by cases u0 <;> cases u1 <;> simp_all [Dum]
theorem qjq {α : Type} {u0 u1 u2 : Bool} {p q : Option α} {r : α} {P : Prop} (f : u0 = true → u1 = true → u2 = true → p = some r → P) (g : ((u0 = false ∧ Dum ∧ Dum) ∨ (u0 = true ∧ u1 = false ∧ Dum) ∨ (u0 = true ∧ u1 = true ∧ u2 = false)) → q = some r → P) (h : (if (u0 && (u1 && u2)) = true then p else q) = some r) : P := by cases u0 <;> cases u1 <;> cases u2 <;> simp_all [Dum]
theorem qeq {α : Type} {u0 u1 u2 u3 : Bool} {p q : Option α} {r : α} {P : Prop} (f : u0 = true → u1 = true → u2 = true → u3 = true → p = some r → P) (g : ((u0 = false ∧ Dum ∧ Dum ∧ Dum) ∨ (u0 = true ∧ u1 = false ∧ Dum ∧ Dum) ∨ (u0 = true ∧ u1 = true ∧ u2 = false ∧ Dum) ∨ (u0 = true ∧ u1 = true ∧ u2 = true ∧ u3 = false)) → q = some r → P) (h : (if (u0 && (u1 && (u2 && u3))) = true then p else q) = some r) : P := by cases u0 <;> cases u1 <;> cases u2 <;> cases u3 <;> simp_all [Dum]
theorem zc5 {α : Type} {u0 u1 u2 u3 u4 : Bool} {p q : Option α} {r : α} {P : Prop} (f : u0 = true → u1 = true → u2 = true → u3 = true → u4 = true → p = some r → P) (g : ((u0 = false ∧ Dum ∧ Dum ∧ Dum ∧ Dum) ∨ (u0 = true ∧ u1 = false ∧ Dum ∧ Dum ∧ Dum) ∨ (u0 = true ∧ u1 = true ∧ u2 = false ∧ Dum ∧ Dum) ∨ (u0 = true ∧ u1 = true ∧ u2 = true ∧ u3 = false ∧ Dum) ∨ (u0 = true ∧ u1 = true ∧ u2 = true ∧ u3 = true ∧ u4 = false)) → q = some r → P) (h : (if (u0 && (u1 && (u2 && (u3 && u4)))) = true then p else q) = some r) : P := by cases u0 <;> cases u1 <;> cases u2 <;> cases u3 <;> cases u4 <;> simp_all [Dum]
theorem xq {α : Type} {u0 u1 : Bool} {p q : Option α} {r : α} {P : Prop} (f : ((u0 = true ∧ Dum) ∨ (u0 = false ∧ u1 = true)) → p = some r → P) (g : u0 = false → u1 = false → q = some r → P) (h : (if (u0 || u1) = true then p else q) = some r) : P := by cases u0 <;> cases u1 <;> simp_all [Dum]
theorem qd5 {α : Type} {u0 u1 u2 : Bool} {p q : Option α} {r : α} {P : Prop} (f : ((u0 = true ∧ Dum ∧ Dum) ∨ (u0 = false ∧ u1 = true ∧ u2 = true)) → p = some r → P) (g : ((u0 = false ∧ u1 = false ∧ Dum) ∨ (u0 = false ∧ u1 = true ∧ u2 = false)) → q = some r → P) (h : (if (u0 || (u1 && u2)) = true then p else q) = some r) : P := by cases u0 <;> cases u1 <;> cases u2 <;> simp_all [Dum]
theorem qc8 {α : Type} {u0 u1 u2 : Bool} {p q : Option α} {r : α} {P : Prop} (f : ((u0 = true ∧ Dum ∧ Dum) ∨ (u0 = false ∧ u1 = true ∧ Dum) ∨ (u0 = false ∧ u1 = false ∧ u2 = true)) → p = some r → P) (g : u0 = false → u1 = false → u2 = false → q = some r → P) (h : (if (u0 || (u1 || u2)) = true then p else q) = some r) : P := by cases u0 <;> cases u1 <;> cases u2 <;> simp_all [Dum]
theorem qjb {α : Type} {u0 u1 u2 u3 : Bool} {p q : Option α} {r : α} {P : Prop} (f : ((u0 = true ∧ Dum ∧ Dum ∧ Dum) ∨ (u0 = false ∧ u1 = true ∧ Dum ∧ Dum) ∨ (u0 = false ∧ u1 = false ∧ u2 = true ∧ Dum) ∨ (u0 = false ∧ u1 = false ∧ u2 = false ∧ u3 = true)) → p = some r → P) (g : u0 = false → u1 = false → u2 = false → u3 = false → q = some r → P) (h : (if (u0 || (u1 || (u2 || u3))) = true then p else q) = some r) : P := by cases u0 <;> cases u1 <;> cases u2 <;> cases u3 <;> simp_all [Dum]
theorem z2r {α : Type} {u0 u1 u2 u3 u4 u5 : Bool} {p q : Option α} {r : α} {P : Prop} (f : ((u0 = true ∧ Dum ∧ Dum ∧ Dum ∧ Dum ∧ Dum) ∨ (u0 = false ∧ u1 = true ∧ Dum ∧ Dum ∧ Dum ∧ Dum) ∨ (u0 = false ∧ u1 = false ∧ u2 = true ∧ Dum ∧ Dum ∧ Dum) ∨ (u0 = false ∧ u1 = false ∧ u2 = false ∧ u3 = true ∧ u4 = true ∧ Dum) ∨ (u0 = false ∧ u1 = false ∧ u2 = false ∧ u3 = true ∧ u4 = false ∧ u5 = true)) → p = some r → P) (g : ((u0 = false ∧ u1 = false ∧ u2 = false ∧ u3 = false ∧ Dum ∧ Dum) ∨ (u0 = false ∧ u1 = false ∧ u2 = false ∧ u3 = true ∧ u4 = false ∧ u5 = false)) → q = some r → P) (h : (if (u0 || (u1 || (u2 || (u3 && (u4 || u5))))) = true then p else q) = some r) : P := by cases u0 <;> cases u1 <;> cases u2 <;> cases u3 <;> cases u4 <;> cases u5 <;> simp_all [Dum]
theorem qpq {α : Type} {u0 u1 u2 u3 u4 : Bool} {p q : Option α} {r : α} {P : Prop} (f : ((u0 = true ∧ Dum ∧ Dum ∧ Dum ∧ Dum) ∨ (u0 = false ∧ u1 = true ∧ Dum ∧ Dum ∧ Dum) ∨ (u0 = false ∧ u1 = false ∧ u2 = true ∧ Dum ∧ Dum) ∨ (u0 = false ∧ u1 = false ∧ u2 = false ∧ u3 = true ∧ Dum) ∨ (u0 = false ∧ u1 = false ∧ u2 = false ∧ u3 = false ∧ u4 = true)) → p = some r → P) (g : u0 = false → u1 = false → u2 = false → u3 = false → u4 = false → q = some r → P) (h : (if (u0 || (u1 || (u2 || (u3 || u4)))) = true then p else q) = some r) : P := by cases u0 <;> cases u1 <;> cases u2 <;> cases u3 <;> cases u4 <;> simp_all [Dum]
theorem zob {α : Type} {u0 u1 u2 u3 u4 u5 : Bool} {p q : Option α} {r : α} {P : Prop} (f : ((u0 = true ∧ Dum ∧ Dum ∧ Dum ∧ Dum ∧ Dum) ∨ (u0 = false ∧ u1 = true ∧ Dum ∧ Dum ∧ Dum ∧ Dum) ∨ (u0 = false ∧ u1 = false ∧ u2 = true ∧ Dum ∧ Dum ∧ Dum) ∨ (u0 = false ∧ u1 = false ∧ u2 = false ∧ u3 = true ∧ Dum ∧ Dum) ∨ (u0 = false ∧ u1 = false ∧ u2 = false ∧ u3 = false ∧ u4 = true ∧ Dum) ∨ (u0 = false ∧ u1 = false ∧ u2 = false ∧ u3 = false ∧ u4 = false ∧ u5 = true)) → p = some r → P) (g : u0 = false → u1 = false → u2 = false → u3 = false → u4 = false → u5 = false → q = some r → P) (h : (if (u0 || (u1 || (u2 || (u3 || (u4 || u5))))) = true then p else q) = some r) : P := by cases u0 <;> cases u1 <;> cases u2 <;> cases u3 <;> cases u4 <;> cases u5 <;> simp_all [Dum]
theorem qwr {α : Type} {u0 u1 u2 u3 u4 u5 u6 u7 : Bool} {p q : Option α} {r : α} {P : Prop} (f : ((u0 = true ∧ Dum ∧ Dum ∧ Dum ∧ Dum ∧ Dum ∧ Dum ∧ Dum) ∨ (u0 = false ∧ u1 = true ∧ Dum ∧ Dum ∧ Dum ∧ Dum ∧ Dum ∧ Dum) ∨ (u0 = false ∧ u1 = false ∧ u2 = true ∧ Dum ∧ Dum ∧ Dum ∧ Dum ∧ Dum) ∨ (u0 = false ∧ u1 = false ∧ u2 = false ∧ u3 = true ∧ Dum ∧ Dum ∧ Dum ∧ Dum) ∨ (u0 = false ∧ u1 = false ∧ u2 = false ∧ u3 = false ∧ u4 = true ∧ Dum ∧ Dum ∧ Dum) ∨ (u0 = false ∧ u1 = false ∧ u2 = false ∧ u3 = false ∧ u4 = false ∧ u5 = true ∧ Dum ∧ Dum) ∨ (u0 = false ∧ u1 = false ∧ u2 = false ∧ u3 = false ∧ u4 = false ∧ u5 = false ∧ u6 = true ∧ Dum) ∨ (u0 = false ∧ u1 = false ∧ u2 = false ∧ u3 = false ∧ u4 = false ∧ u5 = false ∧ u6 = false ∧ u7 = true)) → p = some r → P) (g : u0 = false → u1 = false → u2 = false → u3 = false → u4 = false → u5 = false → u6 = false → u7 = false → q = some r → P) (h : (if (u0 || (u1 || (u2 || (u3 || (u4 || (u5 || (u6 || u7))))))) = true then p else q) = some r) : P := by cases u0 <;> cases u1 <;> cases u2 <;> cases u3 <;> cases u4 <;> cases u5 <;> cases u6 <;> cases u7 <;> simp_all [Dum]
theorem z0e (n : Nat) : 0 + n = n := Nat.zero_add n
def en := PLift.up (And.intro (And.intro (And.intro (And.intro z0x.down (And.intro zrc.down @z0e)) (And.intro @Int.cast_ofNat_Int (And.intro @List.append_nil.{0} @List.nil_append.{0}))) (And.intro (And.intro @T.Span.za (And.intro @T.Row.za @T.Rx.za)) (And.intro (And.intro @T.Fmt.za @T.Form.za) (And.intro @T.Stop.za @T.qj.za)))) (And.intro (And.intro (And.intro @T.qb.za (And.intro @T.q4w.za @T.qi.za)) (And.intro (And.intro @T.qf.za @T.q5w.za) (And.intro @T.q4q.za @T.qo.za))) (And.intro (And.intro @T.qw.za (And.intro @T.qp.za @T.qy.qog)) (And.intro (And.intro @T.qy.qqq @T.qy.qlo) (And.intro @T.qy.qhb @T.qy.za)))))
end Go.Proofs.YtdhgdeelagmbpaaGreat
