/-
  Go's structs as Lean's.
-/
import Derived.Test.YtdhgdeelagmbpaaGreatWad
set_option linter.unusedSimpArgs false
set_option linter.unusedVariables false
set_option maxRecDepth 100000
namespace Go.Proofs.YtdhgdeelagmbpaaGreat
open Go Go.Gm
structure T.Span where
 frm : Int
 to : Int
 deriving Inhabited,DecidableEq
def T.Span.enc (x : T.Span) : List PV :=
 [PV.int IntKind.i64 x.frm,PV.int IntKind.i64 x.to]
theorem T.Span.qz (x : T.Span) : x.enc = [PV.int IntKind.i64 x.frm,PV.int IntKind.i64 x.to] := rfl
def T.Span.ok (x : T.Span) : Prop := inI x.frm ∧ inI x.to ∧ True
structure T.Row where
 frm : Bytes
 to : Bytes
 deriving Inhabited,DecidableEq
def T.Row.enc (x : T.Row) : List PV :=
 [PV.str x.frm,PV.str x.to]
theorem T.Row.qz (x : T.Row) : x.enc = [PV.str x.frm,PV.str x.to] := rfl
def T.Row.ok (x : T.Row) : Prop := ve x.frm ∧ ve x.to ∧ True
structure T.Rx where
 kind : Int
 char : Bytes
 not : Bool
 rows : (Sl T.Row)
 min : Int
 max : Int
 lazy : Bool
 kids : (Sl T.Rx)
 deriving Inhabited
mutual
def T.Rx.enc : T.Rx → List PV
 | ⟨x0,x1,x2,x3,x4,x5,x6,x7⟩ => [PV.int IntKind.i64 x0,PV.str x1,PV.bool x2,PV.sl x3.nil (szc 2 x3.l) (List.map T.Row.enc x3.l),PV.int IntKind.i64 x4,PV.int IntKind.i64 x5,PV.bool x6,T.Rx.encS x7]
def T.Rx.encS : Sl T.Rx → PV
 | ⟨b,l⟩ => .sl b (szc 8 l) (T.Rx.q39 l)
def T.Rx.q39 : List T.Rx → List (List PV)
 | [] => []
 | x :: r => x.enc :: T.Rx.q39 r
end
theorem T.Rx.qa3 : ∀ l : List T.Rx,T.Rx.q39 l = l.map T.Rx.enc
 | [] => rfl
 | x :: r => by simp [T.Rx.q39,T.Rx.qa3 r]
theorem T.Rx.qgg (s : Sl T.Rx) : T.Rx.encS s = .sl s.nil (szc 8 s.l) (s.l.map T.Rx.enc) := by cases s; simp [T.Rx.encS,T.Rx.qa3]
theorem T.Rx.qz (x : T.Rx) : x.enc = [PV.int IntKind.i64 x.kind,PV.str x.char,PV.bool x.not,PV.sl x.rows.nil (szc 2 x.rows.l) (List.map T.Row.enc x.rows.l),PV.int IntKind.i64 x.min,PV.int IntKind.i64 x.max,PV.bool x.lazy,PV.sl x.kids.nil (szc 8 x.kids.l) (List.map T.Rx.enc x.kids.l)] := by cases x; simp [T.Rx.enc,T.Rx.qgg]
mutual
def T.Rx.ok : T.Rx → Prop
 | ⟨x0,x1,x2,x3,x4,x5,x6,x7⟩ => inI x0 ∧ ve x1 ∧ q0h x2 ∧ (yw T.Row.ok) x3 ∧ inI x4 ∧ inI x5 ∧ q0h x6 ∧ T.Rx.okS x7 ∧ True
def T.Rx.okS : Sl T.Rx → Prop
 | ⟨b,l⟩ => (l.length ≤ maxLen ∧ (b = true → l = [])) ∧ T.Rx.okL l
def T.Rx.okL : List T.Rx → Prop
 | [] => True
 | x :: r => x.ok ∧ T.Rx.okL r
end
structure T.Fmt where
 kind : Int
 n : Int
 cas : Int
 thn : Bytes
 els : Bytes
 deriving Inhabited,DecidableEq
def T.Fmt.enc (x : T.Fmt) : List PV :=
 [PV.int IntKind.i64 x.kind,PV.int IntKind.i64 x.n,PV.int IntKind.i64 x.cas,PV.str x.thn,PV.str x.els]
theorem T.Fmt.qz (x : T.Fmt) : x.enc = [PV.int IntKind.i64 x.kind,PV.int IntKind.i64 x.n,PV.int IntKind.i64 x.cas,PV.str x.thn,PV.str x.els] := rfl
def T.Fmt.ok (x : T.Fmt) : Prop := inI x.kind ∧ inI x.n ∧ inI x.cas ∧ ve x.thn ∧ ve x.els ∧ True
structure T.Form where
 rx : T.Rx
 fmts : (Sl T.Fmt)
 fold : Bool
 all : Bool
 deriving Inhabited
def T.Form.enc (x : T.Form) : List PV :=
 [PV.int IntKind.i64 x.rx.kind,PV.str x.rx.char,PV.bool x.rx.not,PV.sl x.rx.rows.nil (szc 2 x.rx.rows.l) (List.map T.Row.enc x.rx.rows.l),PV.int IntKind.i64 x.rx.min,PV.int IntKind.i64 x.rx.max,PV.bool x.rx.lazy,PV.sl x.rx.kids.nil (szc 8 x.rx.kids.l) (List.map T.Rx.enc x.rx.kids.l),PV.sl x.fmts.nil (szc 5 x.fmts.l) (List.map T.Fmt.enc x.fmts.l),PV.bool x.fold,PV.bool x.all]
theorem T.Form.qz (x : T.Form) : x.enc = [PV.int IntKind.i64 x.rx.kind,PV.str x.rx.char,PV.bool x.rx.not,PV.sl x.rx.rows.nil (szc 2 x.rx.rows.l) (List.map T.Row.enc x.rx.rows.l),PV.int IntKind.i64 x.rx.min,PV.int IntKind.i64 x.rx.max,PV.bool x.rx.lazy,PV.sl x.rx.kids.nil (szc 8 x.rx.kids.l) (List.map T.Rx.enc x.rx.kids.l),PV.sl x.fmts.nil (szc 5 x.fmts.l) (List.map T.Fmt.enc x.fmts.l),PV.bool x.fold,PV.bool x.all] := rfl
def T.Form.ok (x : T.Form) : Prop := T.Rx.ok x.rx ∧ (yw T.Fmt.ok) x.fmts ∧ q0h x.fold ∧ q0h x.all ∧ True
structure T.Stop where
 span : T.Span
 n : Int
 up : Int
 first : Bool
 turned : Bool
 form : T.Form
 opts : (Sl Bytes)
 deriving Inhabited
def T.Stop.enc (x : T.Stop) : List PV :=
 [PV.int IntKind.i64 x.span.frm,PV.int IntKind.i64 x.span.to,PV.int IntKind.i64 x.n,PV.int IntKind.i64 x.up,PV.bool x.first,PV.bool x.turned,PV.int IntKind.i64 x.form.rx.kind,PV.str x.form.rx.char,PV.bool x.form.rx.not,PV.sl x.form.rx.rows.nil (szc 2 x.form.rx.rows.l) (List.map T.Row.enc x.form.rx.rows.l),PV.int IntKind.i64 x.form.rx.min,PV.int IntKind.i64 x.form.rx.max,PV.bool x.form.rx.lazy,PV.sl x.form.rx.kids.nil (szc 8 x.form.rx.kids.l) (List.map T.Rx.enc x.form.rx.kids.l),PV.sl x.form.fmts.nil (szc 5 x.form.fmts.l) (List.map T.Fmt.enc x.form.fmts.l),PV.bool x.form.fold,PV.bool x.form.all,PV.sl x.opts.nil (szc 1 x.opts.l) (List.map qh x.opts.l)]
theorem T.Stop.qz (x : T.Stop) : x.enc = [PV.int IntKind.i64 x.span.frm,PV.int IntKind.i64 x.span.to,PV.int IntKind.i64 x.n,PV.int IntKind.i64 x.up,PV.bool x.first,PV.bool x.turned,PV.int IntKind.i64 x.form.rx.kind,PV.str x.form.rx.char,PV.bool x.form.rx.not,PV.sl x.form.rx.rows.nil (szc 2 x.form.rx.rows.l) (List.map T.Row.enc x.form.rx.rows.l),PV.int IntKind.i64 x.form.rx.min,PV.int IntKind.i64 x.form.rx.max,PV.bool x.form.rx.lazy,PV.sl x.form.rx.kids.nil (szc 8 x.form.rx.kids.l) (List.map T.Rx.enc x.form.rx.kids.l),PV.sl x.form.fmts.nil (szc 5 x.form.fmts.l) (List.map T.Fmt.enc x.form.fmts.l),PV.bool x.form.fold,PV.bool x.form.all,PV.sl x.opts.nil (szc 1 x.opts.l) (List.map qh x.opts.l)] := rfl
def T.Stop.ok (x : T.Stop) : Prop := T.Span.ok x.span ∧ inI x.n ∧ inI x.up ∧ q0h x.first ∧ q0h x.turned ∧ T.Form.ok x.form ∧ (yw ve) x.opts ∧ True
structure T.z8 where
 span : T.Span
 stops : (Sl T.Stop)
 deriving Inhabited
def T.z8.enc (x : T.z8) : List PV :=
 [PV.int IntKind.i64 x.span.frm,PV.int IntKind.i64 x.span.to,PV.sl x.stops.nil (szc 18 x.stops.l) (List.map T.Stop.enc x.stops.l)]
theorem T.z8.qz (x : T.z8) : x.enc = [PV.int IntKind.i64 x.span.frm,PV.int IntKind.i64 x.span.to,PV.sl x.stops.nil (szc 18 x.stops.l) (List.map T.Stop.enc x.stops.l)] := rfl
def T.z8.ok (x : T.z8) : Prop := T.Span.ok x.span ∧ (yw T.Stop.ok) x.stops ∧ True
structure T.qb where
 kind : Int
 text : Bytes
 n : Int
 has : Bool
 turned : Bool
 form : T.Form
 opts : (Sl Bytes)
 kids : (Sl T.qb)
 deriving Inhabited
mutual
def T.qb.enc : T.qb → List PV
 | ⟨x0,x1,x2,x3,x4,x5,x6,x7⟩ => [PV.int IntKind.i64 x0,PV.str x1,PV.int IntKind.i64 x2,PV.bool x3,PV.bool x4,PV.int IntKind.i64 x5.rx.kind,PV.str x5.rx.char,PV.bool x5.rx.not,PV.sl x5.rx.rows.nil (szc 2 x5.rx.rows.l) (List.map T.Row.enc x5.rx.rows.l),PV.int IntKind.i64 x5.rx.min,PV.int IntKind.i64 x5.rx.max,PV.bool x5.rx.lazy,PV.sl x5.rx.kids.nil (szc 8 x5.rx.kids.l) (List.map T.Rx.enc x5.rx.kids.l),PV.sl x5.fmts.nil (szc 5 x5.fmts.l) (List.map T.Fmt.enc x5.fmts.l),PV.bool x5.fold,PV.bool x5.all,PV.sl x6.nil (szc 1 x6.l) (List.map qh x6.l),T.qb.encS x7]
def T.qb.encS : Sl T.qb → PV
 | ⟨b,l⟩ => .sl b (szc 18 l) (T.qb.q39 l)
def T.qb.q39 : List T.qb → List (List PV)
 | [] => []
 | x :: r => x.enc :: T.qb.q39 r
end
theorem T.qb.qa3 : ∀ l : List T.qb,T.qb.q39 l = l.map T.qb.enc
 | [] => rfl
 | x :: r => by simp [T.qb.q39,T.qb.qa3 r]
theorem T.qb.qgg (s : Sl T.qb) : T.qb.encS s = .sl s.nil (szc 18 s.l) (s.l.map T.qb.enc) := by cases s; simp [T.qb.encS,T.qb.qa3]
theorem T.qb.qz (x : T.qb) : x.enc = [PV.int IntKind.i64 x.kind,PV.str x.text,PV.int IntKind.i64 x.n,PV.bool x.has,PV.bool x.turned,PV.int IntKind.i64 x.form.rx.kind,PV.str x.form.rx.char,PV.bool x.form.rx.not,PV.sl x.form.rx.rows.nil (szc 2 x.form.rx.rows.l) (List.map T.Row.enc x.form.rx.rows.l),PV.int IntKind.i64 x.form.rx.min,PV.int IntKind.i64 x.form.rx.max,PV.bool x.form.rx.lazy,PV.sl x.form.rx.kids.nil (szc 8 x.form.rx.kids.l) (List.map T.Rx.enc x.form.rx.kids.l),PV.sl x.form.fmts.nil (szc 5 x.form.fmts.l) (List.map T.Fmt.enc x.form.fmts.l),PV.bool x.form.fold,PV.bool x.form.all,PV.sl x.opts.nil (szc 1 x.opts.l) (List.map qh x.opts.l),PV.sl x.kids.nil (szc 18 x.kids.l) (List.map T.qb.enc x.kids.l)] := by cases x; simp [T.qb.enc,T.qb.qgg]
mutual
def T.qb.ok : T.qb → Prop
 | ⟨x0,x1,x2,x3,x4,x5,x6,x7⟩ => inI x0 ∧ ve x1 ∧ inI x2 ∧ q0h x3 ∧ q0h x4 ∧ T.Form.ok x5 ∧ (yw ve) x6 ∧ T.qb.okS x7 ∧ True
def T.qb.okS : Sl T.qb → Prop
 | ⟨b,l⟩ => (l.length ≤ maxLen ∧ (b = true → l = [])) ∧ T.qb.okL l
def T.qb.okL : List T.qb → Prop
 | [] => True
 | x :: r => x.ok ∧ T.qb.okL r
end
structure T.q4j where
 s : Bytes
 what : (Sl T.qb)
 ends : (Sl Int)
 deriving Inhabited
def T.q4j.enc (x : T.q4j) : List PV :=
 [PV.str x.s,PV.sl x.what.nil (szc 18 x.what.l) (List.map T.qb.enc x.what.l),PV.sl x.ends.nil (szc 1 x.ends.l) (List.map qg x.ends.l)]
theorem T.q4j.qz (x : T.q4j) : x.enc = [PV.str x.s,PV.sl x.what.nil (szc 18 x.what.l) (List.map T.qb.enc x.what.l),PV.sl x.ends.nil (szc 1 x.ends.l) (List.map qg x.ends.l)] := rfl
def T.q4j.ok (x : T.q4j) : Prop := ve x.s ∧ (yw T.qb.ok) x.what ∧ (yw inI) x.ends ∧ True
structure T.qi where
 name : Bytes
 value : Bytes
 deriving Inhabited,DecidableEq
def T.qi.enc (x : T.qi) : List PV :=
 [PV.str x.name,PV.str x.value]
theorem T.qi.qz (x : T.qi) : x.enc = [PV.str x.name,PV.str x.value] := rfl
def T.qi.ok (x : T.qi) : Prop := ve x.name ∧ ve x.value ∧ True
structure T.qd where
 kind : Int
 text : Bytes
 n : Int
 def_ : Bool
 first : Bool
 turned : Bool
 form : T.Form
 opts : (Sl Bytes)
 up : Int
 end_ : Int
 deriving Inhabited
def T.qd.enc (x : T.qd) : List PV :=
 [PV.int IntKind.i64 x.kind,PV.str x.text,PV.int IntKind.i64 x.n,PV.bool x.def_,PV.bool x.first,PV.bool x.turned,PV.int IntKind.i64 x.form.rx.kind,PV.str x.form.rx.char,PV.bool x.form.rx.not,PV.sl x.form.rx.rows.nil (szc 2 x.form.rx.rows.l) (List.map T.Row.enc x.form.rx.rows.l),PV.int IntKind.i64 x.form.rx.min,PV.int IntKind.i64 x.form.rx.max,PV.bool x.form.rx.lazy,PV.sl x.form.rx.kids.nil (szc 8 x.form.rx.kids.l) (List.map T.Rx.enc x.form.rx.kids.l),PV.sl x.form.fmts.nil (szc 5 x.form.fmts.l) (List.map T.Fmt.enc x.form.fmts.l),PV.bool x.form.fold,PV.bool x.form.all,PV.sl x.opts.nil (szc 1 x.opts.l) (List.map qh x.opts.l),PV.int IntKind.i64 x.up,PV.int IntKind.i64 x.end_]
theorem T.qd.qz (x : T.qd) : x.enc = [PV.int IntKind.i64 x.kind,PV.str x.text,PV.int IntKind.i64 x.n,PV.bool x.def_,PV.bool x.first,PV.bool x.turned,PV.int IntKind.i64 x.form.rx.kind,PV.str x.form.rx.char,PV.bool x.form.rx.not,PV.sl x.form.rx.rows.nil (szc 2 x.form.rx.rows.l) (List.map T.Row.enc x.form.rx.rows.l),PV.int IntKind.i64 x.form.rx.min,PV.int IntKind.i64 x.form.rx.max,PV.bool x.form.rx.lazy,PV.sl x.form.rx.kids.nil (szc 8 x.form.rx.kids.l) (List.map T.Rx.enc x.form.rx.kids.l),PV.sl x.form.fmts.nil (szc 5 x.form.fmts.l) (List.map T.Fmt.enc x.form.fmts.l),PV.bool x.form.fold,PV.bool x.form.all,PV.sl x.opts.nil (szc 1 x.opts.l) (List.map qh x.opts.l),PV.int IntKind.i64 x.up,PV.int IntKind.i64 x.end_] := rfl
def T.qd.ok (x : T.qd) : Prop := inI x.kind ∧ ve x.text ∧ inI x.n ∧ q0h x.def_ ∧ q0h x.first ∧ q0h x.turned ∧ T.Form.ok x.form ∧ (yw ve) x.opts ∧ inI x.up ∧ inI x.end_ ∧ True
structure T.q47 where
 env : (Sl T.qi)
 lead : Bytes
 unit : Bytes
 parts : (Sl T.qd)
 defs : (Sl Int)
 names : (Sl Bytes)
 deriving Inhabited
def T.q47.enc (x : T.q47) : List PV :=
 [PV.sl x.env.nil (szc 2 x.env.l) (List.map T.qi.enc x.env.l),PV.str x.lead,PV.str x.unit,PV.sl x.parts.nil (szc 20 x.parts.l) (List.map T.qd.enc x.parts.l),PV.sl x.defs.nil (szc 1 x.defs.l) (List.map qg x.defs.l),PV.sl x.names.nil (szc 1 x.names.l) (List.map qh x.names.l)]
theorem T.q47.qz (x : T.q47) : x.enc = [PV.sl x.env.nil (szc 2 x.env.l) (List.map T.qi.enc x.env.l),PV.str x.lead,PV.str x.unit,PV.sl x.parts.nil (szc 20 x.parts.l) (List.map T.qd.enc x.parts.l),PV.sl x.defs.nil (szc 1 x.defs.l) (List.map qg x.defs.l),PV.sl x.names.nil (szc 1 x.names.l) (List.map qh x.names.l)] := rfl
def T.q47.ok (x : T.q47) : Prop := (yw T.qi.ok) x.env ∧ ve x.lead ∧ ve x.unit ∧ (yw T.qd.ok) x.parts ∧ (yw inI) x.defs ∧ (yw ve) x.names ∧ True
structure T.q5l where
 ns : (Sl Int)
 ts : (Sl Bytes)
 deriving Inhabited,DecidableEq
def T.q5l.enc (x : T.q5l) : List PV :=
 [PV.sl x.ns.nil (szc 1 x.ns.l) (List.map qg x.ns.l),PV.sl x.ts.nil (szc 1 x.ts.l) (List.map qh x.ts.l)]
theorem T.q5l.qz (x : T.q5l) : x.enc = [PV.sl x.ns.nil (szc 1 x.ns.l) (List.map qg x.ns.l),PV.sl x.ts.nil (szc 1 x.ts.l) (List.map qh x.ts.l)] := rfl
def T.q5l.ok (x : T.q5l) : Prop := (yw inI) x.ns ∧ (yw ve) x.ts ∧ True
structure T.qm where
 cs : (Sl Bytes)
 at_ : Int
 deriving Inhabited,DecidableEq
def T.qm.enc (x : T.qm) : List PV :=
 [PV.sl x.cs.nil (szc 1 x.cs.l) (List.map qh x.cs.l),PV.int IntKind.i64 x.at_]
theorem T.qm.qz (x : T.qm) : x.enc = [PV.sl x.cs.nil (szc 1 x.cs.l) (List.map qh x.cs.l),PV.int IntKind.i64 x.at_] := rfl
def T.qm.ok (x : T.qm) : Prop := (yw ve) x.cs ∧ inI x.at_ ∧ True
structure T.qp where
 span : T.Span
 parts : (Sl T.Span)
 deriving Inhabited,DecidableEq
def T.qp.enc (x : T.qp) : List PV :=
 [PV.int IntKind.i64 x.span.frm,PV.int IntKind.i64 x.span.to,PV.sl x.parts.nil (szc 2 x.parts.l) (List.map T.Span.enc x.parts.l)]
theorem T.qp.qz (x : T.qp) : x.enc = [PV.int IntKind.i64 x.span.frm,PV.int IntKind.i64 x.span.to,PV.sl x.parts.nil (szc 2 x.parts.l) (List.map T.Span.enc x.parts.l)] := rfl
def T.qp.ok (x : T.qp) : Prop := T.Span.ok x.span ∧ (yw T.Span.ok) x.parts ∧ True
structure T.qo where
 cs : (Sl Bytes)
 offs : (Sl Int)
 fold : Bool
 fuel : Int
 out : Bool
 deriving Inhabited,DecidableEq
def T.qo.enc (x : T.qo) : List PV :=
 [PV.sl x.cs.nil (szc 1 x.cs.l) (List.map qh x.cs.l),PV.sl x.offs.nil (szc 1 x.offs.l) (List.map qg x.offs.l),PV.bool x.fold,PV.int IntKind.i64 x.fuel,PV.bool x.out]
theorem T.qo.qz (x : T.qo) : x.enc = [PV.sl x.cs.nil (szc 1 x.cs.l) (List.map qh x.cs.l),PV.sl x.offs.nil (szc 1 x.offs.l) (List.map qg x.offs.l),PV.bool x.fold,PV.int IntKind.i64 x.fuel,PV.bool x.out] := rfl
def T.qo.ok (x : T.qo) : Prop := (yw ve) x.cs ∧ (yw inI) x.offs ∧ q0h x.fold ∧ inI x.fuel ∧ q0h x.out ∧ True
structure T.qw where
 kind : Int
 x : T.Rx
 g : Int
 many : Int
 frm : Int
 rest : (Option T.qw)
 deriving Inhabited
mutual
def T.qw.enc : T.qw → List PV
 | ⟨x0,x1,x2,x3,x4,x5⟩ => [PV.int IntKind.i64 x0,PV.int IntKind.i64 x1.kind,PV.str x1.char,PV.bool x1.not,PV.sl x1.rows.nil (szc 2 x1.rows.l) (List.map T.Row.enc x1.rows.l),PV.int IntKind.i64 x1.min,PV.int IntKind.i64 x1.max,PV.bool x1.lazy,PV.sl x1.kids.nil (szc 8 x1.kids.l) (List.map T.Rx.enc x1.kids.l),PV.int IntKind.i64 x2,PV.int IntKind.i64 x3,PV.int IntKind.i64 x4,T.qw.jh x5]
def T.qw.jh : Option T.qw → PV
 | none => .nilptr
 | some x => .rp x.enc
end
theorem T.qw.qii : T.qw.jh none = .nilptr := by simp [T.qw.jh]
theorem T.qw.qfp (x : T.qw) : T.qw.jh (some x) = .rp x.enc := by simp [T.qw.jh]
theorem T.qw.q61 {k : Option T.qw} {x : T.qw} (h : k = some x) : T.qw.jh k = .rp x.enc := by rw [h,T.qw.qfp]
theorem T.qw.qlj (k : Option T.qw) (H : Heap) : jc .ptr (.pv (T.qw.jh k)) H = some k.isNone := by cases k <;> simp [T.qw.jh,jc]
theorem T.qw.qnj (k : Option T.qw) : AV.cells (.pv (T.qw.jh k)) = [.pv (T.qw.jh k)] := by cases k <;> simp [T.qw.jh,AV.cells]
theorem T.qw.qrw (k : Option T.qw) (esz : TypeId → Option TI) (sz b : Nat) (z : List PV) (e : Bool) (H : Heap) : q31 esz .eql ⟨sz,b,.ptr,z,e⟩ (.pv (T.qw.jh k)) (.pv .nilptr) H = some (.bool (k.isNone)) := by cases k <;> simp [T.qw.jh,q31,aEq,q9g,jc]
theorem T.qw.qz (x : T.qw) : x.enc = [PV.int IntKind.i64 x.kind,PV.int IntKind.i64 x.x.kind,PV.str x.x.char,PV.bool x.x.not,PV.sl x.x.rows.nil (szc 2 x.x.rows.l) (List.map T.Row.enc x.x.rows.l),PV.int IntKind.i64 x.x.min,PV.int IntKind.i64 x.x.max,PV.bool x.x.lazy,PV.sl x.x.kids.nil (szc 8 x.x.kids.l) (List.map T.Rx.enc x.x.kids.l),PV.int IntKind.i64 x.g,PV.int IntKind.i64 x.many,PV.int IntKind.i64 x.frm,T.qw.jh x.rest] := by cases x; simp [T.qw.enc]
def T.qw.ok (_ : T.qw) : Prop := True
def aw8 : Option Bool := some true
theorem zl {α : Type} {u0 u1 : Bool} {p q : Option α} {r : α} {P : Prop} (f : u0 = true → u1 = true → p = some r → P) (g : ((u0 = false ∧ Dum) ∨ (u0 = true ∧ u1 = false)) → q = some r → P) (h : (if (u0 && u1) = true then p else q) = some r) : P := by cases u0 <;> cases u1 <;> simp_all [Dum]
theorem qog {α : Type} {u0 u1 u2 : Bool} {p q : Option α} {r : α} {P : Prop} (f : u0 = true → u1 = true → u2 = true → p = some r → P) (g : ((u0 = false ∧ Dum ∧ Dum) ∨ (u0 = true ∧ u1 = false ∧ Dum) ∨ (u0 = true ∧ u1 = true ∧ u2 = false)) → q = some r → P) (h : (if (u0 && (u1 && u2)) = true then p else q) = some r) : P := by cases u0 <;> cases u1 <;> cases u2 <;> simp_all [Dum]
theorem qee {α : Type} {u0 u1 u2 u3 : Bool} {p q : Option α} {r : α} {P : Prop} (f : u0 = true → u1 = true → u2 = true → u3 = true → p = some r → P) (g : ((u0 = false ∧ Dum ∧ Dum ∧ Dum) ∨ (u0 = true ∧ u1 = false ∧ Dum ∧ Dum) ∨ (u0 = true ∧ u1 = true ∧ u2 = false ∧ Dum) ∨ (u0 = true ∧ u1 = true ∧ u2 = true ∧ u3 = false)) → q = some r → P) (h : (if (u0 && (u1 && (u2 && u3))) = true then p else q) = some r) : P := by cases u0 <;> cases u1 <;> cases u2 <;> cases u3 <;> simp_all [Dum]
theorem qry {α : Type} {u0 u1 u2 u3 u4 : Bool} {p q : Option α} {r : α} {P : Prop} (f : u0 = true → u1 = true → u2 = true → u3 = true → u4 = true → p = some r → P) (g : ((u0 = false ∧ Dum ∧ Dum ∧ Dum ∧ Dum) ∨ (u0 = true ∧ u1 = false ∧ Dum ∧ Dum ∧ Dum) ∨ (u0 = true ∧ u1 = true ∧ u2 = false ∧ Dum ∧ Dum) ∨ (u0 = true ∧ u1 = true ∧ u2 = true ∧ u3 = false ∧ Dum) ∨ (u0 = true ∧ u1 = true ∧ u2 = true ∧ u3 = true ∧ u4 = false)) → q = some r → P) (h : (if (u0 && (u1 && (u2 && (u3 && u4)))) = true then p else q) = some r) : P := by cases u0 <;> cases u1 <;> cases u2 <;> cases u3 <;> cases u4 <;> simp_all [Dum]
theorem xe {α : Type} {u0 u1 : Bool} {p q : Option α} {r : α} {P : Prop} (f : ((u0 = true ∧ Dum) ∨ (u0 = false ∧ u1 = true)) → p = some r → P) (g : u0 = false → u1 = false → q = some r → P) (h : (if (u0 || u1) = true then p else q) = some r) : P := by cases u0 <;> cases u1 <;> simp_all [Dum]
theorem q6m {α : Type} {u0 u1 u2 : Bool} {p q : Option α} {r : α} {P : Prop} (f : ((u0 = true ∧ Dum ∧ Dum) ∨ (u0 = false ∧ u1 = true ∧ u2 = true)) → p = some r → P) (g : ((u0 = false ∧ u1 = false ∧ Dum) ∨ (u0 = false ∧ u1 = true ∧ u2 = false)) → q = some r → P) (h : (if (u0 || (u1 && u2)) = true then p else q) = some r) : P := by cases u0 <;> cases u1 <;> cases u2 <;> simp_all [Dum]
theorem qb8 {α : Type} {u0 u1 u2 : Bool} {p q : Option α} {r : α} {P : Prop} (f : ((u0 = true ∧ Dum ∧ Dum) ∨ (u0 = false ∧ u1 = true ∧ Dum) ∨ (u0 = false ∧ u1 = false ∧ u2 = true)) → p = some r → P) (g : u0 = false → u1 = false → u2 = false → q = some r → P) (h : (if (u0 || (u1 || u2)) = true then p else q) = some r) : P := by cases u0 <;> cases u1 <;> cases u2 <;> simp_all [Dum]
theorem qfb {α : Type} {u0 u1 u2 u3 : Bool} {p q : Option α} {r : α} {P : Prop} (f : ((u0 = true ∧ Dum ∧ Dum ∧ Dum) ∨ (u0 = false ∧ u1 = true ∧ Dum ∧ Dum) ∨ (u0 = false ∧ u1 = false ∧ u2 = true ∧ Dum) ∨ (u0 = false ∧ u1 = false ∧ u2 = false ∧ u3 = true)) → p = some r → P) (g : u0 = false → u1 = false → u2 = false → u3 = false → q = some r → P) (h : (if (u0 || (u1 || (u2 || u3))) = true then p else q) = some r) : P := by cases u0 <;> cases u1 <;> cases u2 <;> cases u3 <;> simp_all [Dum]
theorem z4m {α : Type} {u0 u1 u2 u3 u4 u5 : Bool} {p q : Option α} {r : α} {P : Prop} (f : ((u0 = true ∧ Dum ∧ Dum ∧ Dum ∧ Dum ∧ Dum) ∨ (u0 = false ∧ u1 = true ∧ Dum ∧ Dum ∧ Dum ∧ Dum) ∨ (u0 = false ∧ u1 = false ∧ u2 = true ∧ Dum ∧ Dum ∧ Dum) ∨ (u0 = false ∧ u1 = false ∧ u2 = false ∧ u3 = true ∧ u4 = true ∧ Dum) ∨ (u0 = false ∧ u1 = false ∧ u2 = false ∧ u3 = true ∧ u4 = false ∧ u5 = true)) → p = some r → P) (g : ((u0 = false ∧ u1 = false ∧ u2 = false ∧ u3 = false ∧ Dum ∧ Dum) ∨ (u0 = false ∧ u1 = false ∧ u2 = false ∧ u3 = true ∧ u4 = false ∧ u5 = false)) → q = some r → P) (h : (if (u0 || (u1 || (u2 || (u3 && (u4 || u5))))) = true then p else q) = some r) : P := by cases u0 <;> cases u1 <;> cases u2 <;> cases u3 <;> cases u4 <;> cases u5 <;> simp_all [Dum]
theorem qj6 {α : Type} {u0 u1 u2 u3 u4 : Bool} {p q : Option α} {r : α} {P : Prop} (f : ((u0 = true ∧ Dum ∧ Dum ∧ Dum ∧ Dum) ∨ (u0 = false ∧ u1 = true ∧ Dum ∧ Dum ∧ Dum) ∨ (u0 = false ∧ u1 = false ∧ u2 = true ∧ Dum ∧ Dum) ∨ (u0 = false ∧ u1 = false ∧ u2 = false ∧ u3 = true ∧ Dum) ∨ (u0 = false ∧ u1 = false ∧ u2 = false ∧ u3 = false ∧ u4 = true)) → p = some r → P) (g : u0 = false → u1 = false → u2 = false → u3 = false → u4 = false → q = some r → P) (h : (if (u0 || (u1 || (u2 || (u3 || u4)))) = true then p else q) = some r) : P := by cases u0 <;> cases u1 <;> cases u2 <;> cases u3 <;> cases u4 <;> simp_all [Dum]
theorem ziy {α : Type} {u0 u1 u2 u3 u4 u5 : Bool} {p q : Option α} {r : α} {P : Prop} (f : ((u0 = true ∧ Dum ∧ Dum ∧ Dum ∧ Dum ∧ Dum) ∨ (u0 = false ∧ u1 = true ∧ Dum ∧ Dum ∧ Dum ∧ Dum) ∨ (u0 = false ∧ u1 = false ∧ u2 = true ∧ Dum ∧ Dum ∧ Dum) ∨ (u0 = false ∧ u1 = false ∧ u2 = false ∧ u3 = true ∧ Dum ∧ Dum) ∨ (u0 = false ∧ u1 = false ∧ u2 = false ∧ u3 = false ∧ u4 = true ∧ Dum) ∨ (u0 = false ∧ u1 = false ∧ u2 = false ∧ u3 = false ∧ u4 = false ∧ u5 = true)) → p = some r → P) (g : u0 = false → u1 = false → u2 = false → u3 = false → u4 = false → u5 = false → q = some r → P) (h : (if (u0 || (u1 || (u2 || (u3 || (u4 || u5))))) = true then p else q) = some r) : P := by cases u0 <;> cases u1 <;> cases u2 <;> cases u3 <;> cases u4 <;> cases u5 <;> simp_all [Dum]
theorem zg7 {α : Type} {u0 u1 u2 u3 u4 u5 u6 u7 : Bool} {p q : Option α} {r : α} {P : Prop} (f : ((u0 = true ∧ Dum ∧ Dum ∧ Dum ∧ Dum ∧ Dum ∧ Dum ∧ Dum) ∨ (u0 = false ∧ u1 = true ∧ Dum ∧ Dum ∧ Dum ∧ Dum ∧ Dum ∧ Dum) ∨ (u0 = false ∧ u1 = false ∧ u2 = true ∧ Dum ∧ Dum ∧ Dum ∧ Dum ∧ Dum) ∨ (u0 = false ∧ u1 = false ∧ u2 = false ∧ u3 = true ∧ Dum ∧ Dum ∧ Dum ∧ Dum) ∨ (u0 = false ∧ u1 = false ∧ u2 = false ∧ u3 = false ∧ u4 = true ∧ Dum ∧ Dum ∧ Dum) ∨ (u0 = false ∧ u1 = false ∧ u2 = false ∧ u3 = false ∧ u4 = false ∧ u5 = true ∧ Dum ∧ Dum) ∨ (u0 = false ∧ u1 = false ∧ u2 = false ∧ u3 = false ∧ u4 = false ∧ u5 = false ∧ u6 = true ∧ Dum) ∨ (u0 = false ∧ u1 = false ∧ u2 = false ∧ u3 = false ∧ u4 = false ∧ u5 = false ∧ u6 = false ∧ u7 = true)) → p = some r → P) (g : u0 = false → u1 = false → u2 = false → u3 = false → u4 = false → u5 = false → u6 = false → u7 = false → q = some r → P) (h : (if (u0 || (u1 || (u2 || (u3 || (u4 || (u5 || (u6 || u7))))))) = true then p else q) = some r) : P := by cases u0 <;> cases u1 <;> cases u2 <;> cases u3 <;> cases u4 <;> cases u5 <;> cases u6 <;> cases u7 <;> simp_all [Dum]
theorem qri (n : Nat) : 0 + n = n := Nat.zero_add n
def en := PLift.up (And.intro (And.intro (And.intro (And.intro zj8.down (And.intro z96.down @qri)) (And.intro @Int.cast_ofNat_Int (And.intro @List.append_nil.{0} @List.nil_append.{0}))) (And.intro (And.intro @T.Span.qz (And.intro @T.Row.qz @T.Rx.qz)) (And.intro (And.intro @T.Fmt.qz @T.Form.qz) (And.intro @T.Stop.qz @T.z8.qz)))) (And.intro (And.intro (And.intro @T.qb.qz (And.intro @T.q4j.qz @T.qi.qz)) (And.intro (And.intro @T.qd.qz @T.q47.qz) (And.intro @T.q5l.qz @T.qm.qz))) (And.intro (And.intro @T.qp.qz (And.intro @T.qo.qz @T.qw.qlj)) (And.intro (And.intro @T.qw.qnj @T.qw.qii) (And.intro @T.qw.qfp @T.qw.qz)))))
end Go.Proofs.YtdhgdeelagmbpaaGreat
