/-
  Go's structs as Lean's.
-/
import Derived.Test.YtdhgdeelagmbpaaGreatVad
set_option linter.unusedSimpArgs false
set_option linter.unusedVariables false
set_option maxRecDepth 100000
namespace Go.Proofs.YtdhgdeelagmbpaaGreat
open Go Go.Gm
structure T.Span where
 frm : Int
 to : Int
 deriving Inhabited,DecidableEq
def T.Span.enc (x : T.Span) : List PV :=
 [PV.int IntKind.i64 x.frm,PV.int IntKind.i64 x.to]
theorem T.Span.qx (x : T.Span) : x.enc = [PV.int IntKind.i64 x.frm,PV.int IntKind.i64 x.to] := rfl
def T.Span.ok (x : T.Span) : Prop := inI x.frm ∧ inI x.to ∧ True
structure T.Row where
 frm : Bytes
 to : Bytes
 deriving Inhabited,DecidableEq
def T.Row.enc (x : T.Row) : List PV :=
 [PV.str x.frm,PV.str x.to]
theorem T.Row.qx (x : T.Row) : x.enc = [PV.str x.frm,PV.str x.to] := rfl
def T.Row.ok (x : T.Row) : Prop := yj x.frm ∧ yj x.to ∧ True
structure T.Rx where
 kind : Int
 char : Bytes
 not : Bool
 rows : (Sl T.Row)
 min : Int
 max : Int
 lazy : Bool
 kids : (Sl T.Rx)
 deriving Inhabited
mutual
def T.Rx.enc : T.Rx → List PV
 | ⟨x0,x1,x2,x3,x4,x5,x6,x7⟩ => [PV.int IntKind.i64 x0,PV.str x1,PV.bool x2,PV.sl x3.nil (szc 2 x3.l) (List.map T.Row.enc x3.l),PV.int IntKind.i64 x4,PV.int IntKind.i64 x5,PV.bool x6,T.Rx.encS x7]
def T.Rx.encS : Sl T.Rx → PV
 | ⟨b,l⟩ => .sl b (szc 8 l) (T.Rx.q36 l)
def T.Rx.q36 : List T.Rx → List (List PV)
 | [] => []
 | x :: r => x.enc :: T.Rx.q36 r
end
theorem T.Rx.qbr : ∀ l : List T.Rx,T.Rx.q36 l = l.map T.Rx.enc
 | [] => rfl
 | x :: r => by simp [T.Rx.q36,T.Rx.qbr r]
theorem T.Rx.qgo (s : Sl T.Rx) : T.Rx.encS s = .sl s.nil (szc 8 s.l) (s.l.map T.Rx.enc) := by cases s; simp [T.Rx.encS,T.Rx.qbr]
theorem T.Rx.qx (x : T.Rx) : x.enc = [PV.int IntKind.i64 x.kind,PV.str x.char,PV.bool x.not,PV.sl x.rows.nil (szc 2 x.rows.l) (List.map T.Row.enc x.rows.l),PV.int IntKind.i64 x.min,PV.int IntKind.i64 x.max,PV.bool x.lazy,PV.sl x.kids.nil (szc 8 x.kids.l) (List.map T.Rx.enc x.kids.l)] := by cases x; simp [T.Rx.enc,T.Rx.qgo]
mutual
def T.Rx.ok : T.Rx → Prop
 | ⟨x0,x1,x2,x3,x4,x5,x6,x7⟩ => inI x0 ∧ yj x1 ∧ uy x2 ∧ (yx T.Row.ok) x3 ∧ inI x4 ∧ inI x5 ∧ uy x6 ∧ T.Rx.okS x7 ∧ True
def T.Rx.okS : Sl T.Rx → Prop
 | ⟨b,l⟩ => (l.length ≤ maxLen ∧ (b = true → l = [])) ∧ T.Rx.okL l
def T.Rx.okL : List T.Rx → Prop
 | [] => True
 | x :: r => x.ok ∧ T.Rx.okL r
end
structure T.Fmt where
 kind : Int
 n : Int
 cas : Int
 thn : Bytes
 els : Bytes
 deriving Inhabited,DecidableEq
def T.Fmt.enc (x : T.Fmt) : List PV :=
 [PV.int IntKind.i64 x.kind,PV.int IntKind.i64 x.n,PV.int IntKind.i64 x.cas,PV.str x.thn,PV.str x.els]
theorem T.Fmt.qx (x : T.Fmt) : x.enc = [PV.int IntKind.i64 x.kind,PV.int IntKind.i64 x.n,PV.int IntKind.i64 x.cas,PV.str x.thn,PV.str x.els] := rfl
def T.Fmt.ok (x : T.Fmt) : Prop := inI x.kind ∧ inI x.n ∧ inI x.cas ∧ yj x.thn ∧ yj x.els ∧ True
structure T.Form where
 rx : T.Rx
 fmts : (Sl T.Fmt)
 fold : Bool
 all : Bool
 deriving Inhabited
def T.Form.enc (x : T.Form) : List PV :=
 [PV.int IntKind.i64 x.rx.kind,PV.str x.rx.char,PV.bool x.rx.not,PV.sl x.rx.rows.nil (szc 2 x.rx.rows.l) (List.map T.Row.enc x.rx.rows.l),PV.int IntKind.i64 x.rx.min,PV.int IntKind.i64 x.rx.max,PV.bool x.rx.lazy,PV.sl x.rx.kids.nil (szc 8 x.rx.kids.l) (List.map T.Rx.enc x.rx.kids.l),PV.sl x.fmts.nil (szc 5 x.fmts.l) (List.map T.Fmt.enc x.fmts.l),PV.bool x.fold,PV.bool x.all]
theorem T.Form.qx (x : T.Form) : x.enc = [PV.int IntKind.i64 x.rx.kind,PV.str x.rx.char,PV.bool x.rx.not,PV.sl x.rx.rows.nil (szc 2 x.rx.rows.l) (List.map T.Row.enc x.rx.rows.l),PV.int IntKind.i64 x.rx.min,PV.int IntKind.i64 x.rx.max,PV.bool x.rx.lazy,PV.sl x.rx.kids.nil (szc 8 x.rx.kids.l) (List.map T.Rx.enc x.rx.kids.l),PV.sl x.fmts.nil (szc 5 x.fmts.l) (List.map T.Fmt.enc x.fmts.l),PV.bool x.fold,PV.bool x.all] := rfl
def T.Form.ok (x : T.Form) : Prop := T.Rx.ok x.rx ∧ (yx T.Fmt.ok) x.fmts ∧ uy x.fold ∧ uy x.all ∧ True
structure T.Stop where
 span : T.Span
 n : Int
 up : Int
 first : Bool
 turned : Bool
 form : T.Form
 opts : (Sl Bytes)
 deriving Inhabited
def T.Stop.enc (x : T.Stop) : List PV :=
 [PV.int IntKind.i64 x.span.frm,PV.int IntKind.i64 x.span.to,PV.int IntKind.i64 x.n,PV.int IntKind.i64 x.up,PV.bool x.first,PV.bool x.turned,PV.int IntKind.i64 x.form.rx.kind,PV.str x.form.rx.char,PV.bool x.form.rx.not,PV.sl x.form.rx.rows.nil (szc 2 x.form.rx.rows.l) (List.map T.Row.enc x.form.rx.rows.l),PV.int IntKind.i64 x.form.rx.min,PV.int IntKind.i64 x.form.rx.max,PV.bool x.form.rx.lazy,PV.sl x.form.rx.kids.nil (szc 8 x.form.rx.kids.l) (List.map T.Rx.enc x.form.rx.kids.l),PV.sl x.form.fmts.nil (szc 5 x.form.fmts.l) (List.map T.Fmt.enc x.form.fmts.l),PV.bool x.form.fold,PV.bool x.form.all,PV.sl x.opts.nil (szc 1 x.opts.l) (List.map qg x.opts.l)]
theorem T.Stop.qx (x : T.Stop) : x.enc = [PV.int IntKind.i64 x.span.frm,PV.int IntKind.i64 x.span.to,PV.int IntKind.i64 x.n,PV.int IntKind.i64 x.up,PV.bool x.first,PV.bool x.turned,PV.int IntKind.i64 x.form.rx.kind,PV.str x.form.rx.char,PV.bool x.form.rx.not,PV.sl x.form.rx.rows.nil (szc 2 x.form.rx.rows.l) (List.map T.Row.enc x.form.rx.rows.l),PV.int IntKind.i64 x.form.rx.min,PV.int IntKind.i64 x.form.rx.max,PV.bool x.form.rx.lazy,PV.sl x.form.rx.kids.nil (szc 8 x.form.rx.kids.l) (List.map T.Rx.enc x.form.rx.kids.l),PV.sl x.form.fmts.nil (szc 5 x.form.fmts.l) (List.map T.Fmt.enc x.form.fmts.l),PV.bool x.form.fold,PV.bool x.form.all,PV.sl x.opts.nil (szc 1 x.opts.l) (List.map qg x.opts.l)] := rfl
def T.Stop.ok (x : T.Stop) : Prop := T.Span.ok x.span ∧ inI x.n ∧ inI x.up ∧ uy x.first ∧ uy x.turned ∧ T.Form.ok x.form ∧ (yx yj) x.opts ∧ True
structure T.zf where
 span : T.Span
 stops : (Sl T.Stop)
 deriving Inhabited
def T.zf.enc (x : T.zf) : List PV :=
 [PV.int IntKind.i64 x.span.frm,PV.int IntKind.i64 x.span.to,PV.sl x.stops.nil (szc 18 x.stops.l) (List.map T.Stop.enc x.stops.l)]
theorem T.zf.qx (x : T.zf) : x.enc = [PV.int IntKind.i64 x.span.frm,PV.int IntKind.i64 x.span.to,PV.sl x.stops.nil (szc 18 x.stops.l) (List.map T.Stop.enc x.stops.l)] := rfl
def T.zf.ok (x : T.zf) : Prop := T.Span.ok x.span ∧ (yx T.Stop.ok) x.stops ∧ True
structure T.qb where
 kind : Int
 text : Bytes
 n : Int
 has : Bool
 turned : Bool
 form : T.Form
 opts : (Sl Bytes)
 kids : (Sl T.qb)
 deriving Inhabited
mutual
def T.qb.enc : T.qb → List PV
 | ⟨x0,x1,x2,x3,x4,x5,x6,x7⟩ => [PV.int IntKind.i64 x0,PV.str x1,PV.int IntKind.i64 x2,PV.bool x3,PV.bool x4,PV.int IntKind.i64 x5.rx.kind,PV.str x5.rx.char,PV.bool x5.rx.not,PV.sl x5.rx.rows.nil (szc 2 x5.rx.rows.l) (List.map T.Row.enc x5.rx.rows.l),PV.int IntKind.i64 x5.rx.min,PV.int IntKind.i64 x5.rx.max,PV.bool x5.rx.lazy,PV.sl x5.rx.kids.nil (szc 8 x5.rx.kids.l) (List.map T.Rx.enc x5.rx.kids.l),PV.sl x5.fmts.nil (szc 5 x5.fmts.l) (List.map T.Fmt.enc x5.fmts.l),PV.bool x5.fold,PV.bool x5.all,PV.sl x6.nil (szc 1 x6.l) (List.map qg x6.l),T.qb.encS x7]
def T.qb.encS : Sl T.qb → PV
 | ⟨b,l⟩ => .sl b (szc 18 l) (T.qb.q36 l)
def T.qb.q36 : List T.qb → List (List PV)
 | [] => []
 | x :: r => x.enc :: T.qb.q36 r
end
theorem T.qb.qbr : ∀ l : List T.qb,T.qb.q36 l = l.map T.qb.enc
 | [] => rfl
 | x :: r => by simp [T.qb.q36,T.qb.qbr r]
theorem T.qb.qgo (s : Sl T.qb) : T.qb.encS s = .sl s.nil (szc 18 s.l) (s.l.map T.qb.enc) := by cases s; simp [T.qb.encS,T.qb.qbr]
theorem T.qb.qx (x : T.qb) : x.enc = [PV.int IntKind.i64 x.kind,PV.str x.text,PV.int IntKind.i64 x.n,PV.bool x.has,PV.bool x.turned,PV.int IntKind.i64 x.form.rx.kind,PV.str x.form.rx.char,PV.bool x.form.rx.not,PV.sl x.form.rx.rows.nil (szc 2 x.form.rx.rows.l) (List.map T.Row.enc x.form.rx.rows.l),PV.int IntKind.i64 x.form.rx.min,PV.int IntKind.i64 x.form.rx.max,PV.bool x.form.rx.lazy,PV.sl x.form.rx.kids.nil (szc 8 x.form.rx.kids.l) (List.map T.Rx.enc x.form.rx.kids.l),PV.sl x.form.fmts.nil (szc 5 x.form.fmts.l) (List.map T.Fmt.enc x.form.fmts.l),PV.bool x.form.fold,PV.bool x.form.all,PV.sl x.opts.nil (szc 1 x.opts.l) (List.map qg x.opts.l),PV.sl x.kids.nil (szc 18 x.kids.l) (List.map T.qb.enc x.kids.l)] := by cases x; simp [T.qb.enc,T.qb.qgo]
mutual
def T.qb.ok : T.qb → Prop
 | ⟨x0,x1,x2,x3,x4,x5,x6,x7⟩ => inI x0 ∧ yj x1 ∧ inI x2 ∧ uy x3 ∧ uy x4 ∧ T.Form.ok x5 ∧ (yx yj) x6 ∧ T.qb.okS x7 ∧ True
def T.qb.okS : Sl T.qb → Prop
 | ⟨b,l⟩ => (l.length ≤ maxLen ∧ (b = true → l = [])) ∧ T.qb.okL l
def T.qb.okL : List T.qb → Prop
 | [] => True
 | x :: r => x.ok ∧ T.qb.okL r
end
structure T.q4g where
 s : Bytes
 what : (Sl T.qb)
 ends : (Sl Int)
 deriving Inhabited
def T.q4g.enc (x : T.q4g) : List PV :=
 [PV.str x.s,PV.sl x.what.nil (szc 18 x.what.l) (List.map T.qb.enc x.what.l),PV.sl x.ends.nil (szc 1 x.ends.l) (List.map qf x.ends.l)]
theorem T.q4g.qx (x : T.q4g) : x.enc = [PV.str x.s,PV.sl x.what.nil (szc 18 x.what.l) (List.map T.qb.enc x.what.l),PV.sl x.ends.nil (szc 1 x.ends.l) (List.map qf x.ends.l)] := rfl
def T.q4g.ok (x : T.q4g) : Prop := yj x.s ∧ (yx T.qb.ok) x.what ∧ (yx inI) x.ends ∧ True
structure T.qi where
 name : Bytes
 value : Bytes
 deriving Inhabited,DecidableEq
def T.qi.enc (x : T.qi) : List PV :=
 [PV.str x.name,PV.str x.value]
theorem T.qi.qx (x : T.qi) : x.enc = [PV.str x.name,PV.str x.value] := rfl
def T.qi.ok (x : T.qi) : Prop := yj x.name ∧ yj x.value ∧ True
structure T.qc where
 kind : Int
 text : Bytes
 n : Int
 def_ : Bool
 first : Bool
 turned : Bool
 form : T.Form
 opts : (Sl Bytes)
 up : Int
 end_ : Int
 deriving Inhabited
def T.qc.enc (x : T.qc) : List PV :=
 [PV.int IntKind.i64 x.kind,PV.str x.text,PV.int IntKind.i64 x.n,PV.bool x.def_,PV.bool x.first,PV.bool x.turned,PV.int IntKind.i64 x.form.rx.kind,PV.str x.form.rx.char,PV.bool x.form.rx.not,PV.sl x.form.rx.rows.nil (szc 2 x.form.rx.rows.l) (List.map T.Row.enc x.form.rx.rows.l),PV.int IntKind.i64 x.form.rx.min,PV.int IntKind.i64 x.form.rx.max,PV.bool x.form.rx.lazy,PV.sl x.form.rx.kids.nil (szc 8 x.form.rx.kids.l) (List.map T.Rx.enc x.form.rx.kids.l),PV.sl x.form.fmts.nil (szc 5 x.form.fmts.l) (List.map T.Fmt.enc x.form.fmts.l),PV.bool x.form.fold,PV.bool x.form.all,PV.sl x.opts.nil (szc 1 x.opts.l) (List.map qg x.opts.l),PV.int IntKind.i64 x.up,PV.int IntKind.i64 x.end_]
theorem T.qc.qx (x : T.qc) : x.enc = [PV.int IntKind.i64 x.kind,PV.str x.text,PV.int IntKind.i64 x.n,PV.bool x.def_,PV.bool x.first,PV.bool x.turned,PV.int IntKind.i64 x.form.rx.kind,PV.str x.form.rx.char,PV.bool x.form.rx.not,PV.sl x.form.rx.rows.nil (szc 2 x.form.rx.rows.l) (List.map T.Row.enc x.form.rx.rows.l),PV.int IntKind.i64 x.form.rx.min,PV.int IntKind.i64 x.form.rx.max,PV.bool x.form.rx.lazy,PV.sl x.form.rx.kids.nil (szc 8 x.form.rx.kids.l) (List.map T.Rx.enc x.form.rx.kids.l),PV.sl x.form.fmts.nil (szc 5 x.form.fmts.l) (List.map T.Fmt.enc x.form.fmts.l),PV.bool x.form.fold,PV.bool x.form.all,PV.sl x.opts.nil (szc 1 x.opts.l) (List.map qg x.opts.l),PV.int IntKind.i64 x.up,PV.int IntKind.i64 x.end_] := rfl
def T.qc.ok (x : T.qc) : Prop := inI x.kind ∧ yj x.text ∧ inI x.n ∧ uy x.def_ ∧ uy x.first ∧ uy x.turned ∧ T.Form.ok x.form ∧ (yx yj) x.opts ∧ inI x.up ∧ inI x.end_ ∧ True
structure T.q56 where
 env : (Sl T.qi)
 lead : Bytes
 unit : Bytes
 parts : (Sl T.qc)
 defs : (Sl Int)
 names : (Sl Bytes)
 deriving Inhabited
def T.q56.enc (x : T.q56) : List PV :=
 [PV.sl x.env.nil (szc 2 x.env.l) (List.map T.qi.enc x.env.l),PV.str x.lead,PV.str x.unit,PV.sl x.parts.nil (szc 20 x.parts.l) (List.map T.qc.enc x.parts.l),PV.sl x.defs.nil (szc 1 x.defs.l) (List.map qf x.defs.l),PV.sl x.names.nil (szc 1 x.names.l) (List.map qg x.names.l)]
theorem T.q56.qx (x : T.q56) : x.enc = [PV.sl x.env.nil (szc 2 x.env.l) (List.map T.qi.enc x.env.l),PV.str x.lead,PV.str x.unit,PV.sl x.parts.nil (szc 20 x.parts.l) (List.map T.qc.enc x.parts.l),PV.sl x.defs.nil (szc 1 x.defs.l) (List.map qf x.defs.l),PV.sl x.names.nil (szc 1 x.names.l) (List.map qg x.names.l)] := rfl
def T.q56.ok (x : T.q56) : Prop := (yx T.qi.ok) x.env ∧ yj x.lead ∧ yj x.unit ∧ (yx T.qc.ok) x.parts ∧ (yx inI) x.defs ∧ (yx yj) x.names ∧ True
structure T.q61 where
 ns : (Sl Int)
 ts : (Sl Bytes)
 deriving Inhabited,DecidableEq
def T.q61.enc (x : T.q61) : List PV :=
 [PV.sl x.ns.nil (szc 1 x.ns.l) (List.map qf x.ns.l),PV.sl x.ts.nil (szc 1 x.ts.l) (List.map qg x.ts.l)]
theorem T.q61.qx (x : T.q61) : x.enc = [PV.sl x.ns.nil (szc 1 x.ns.l) (List.map qf x.ns.l),PV.sl x.ts.nil (szc 1 x.ts.l) (List.map qg x.ts.l)] := rfl
def T.q61.ok (x : T.q61) : Prop := (yx inI) x.ns ∧ (yx yj) x.ts ∧ True
structure T.qm where
 cs : (Sl Bytes)
 at_ : Int
 deriving Inhabited,DecidableEq
def T.qm.enc (x : T.qm) : List PV :=
 [PV.sl x.cs.nil (szc 1 x.cs.l) (List.map qg x.cs.l),PV.int IntKind.i64 x.at_]
theorem T.qm.qx (x : T.qm) : x.enc = [PV.sl x.cs.nil (szc 1 x.cs.l) (List.map qg x.cs.l),PV.int IntKind.i64 x.at_] := rfl
def T.qm.ok (x : T.qm) : Prop := (yx yj) x.cs ∧ inI x.at_ ∧ True
structure T.qw where
 span : T.Span
 parts : (Sl T.Span)
 deriving Inhabited,DecidableEq
def T.qw.enc (x : T.qw) : List PV :=
 [PV.int IntKind.i64 x.span.frm,PV.int IntKind.i64 x.span.to,PV.sl x.parts.nil (szc 2 x.parts.l) (List.map T.Span.enc x.parts.l)]
theorem T.qw.qx (x : T.qw) : x.enc = [PV.int IntKind.i64 x.span.frm,PV.int IntKind.i64 x.span.to,PV.sl x.parts.nil (szc 2 x.parts.l) (List.map T.Span.enc x.parts.l)] := rfl
def T.qw.ok (x : T.qw) : Prop := T.Span.ok x.span ∧ (yx T.Span.ok) x.parts ∧ True
structure T.qo where
 cs : (Sl Bytes)
 offs : (Sl Int)
 fold : Bool
 fuel : Int
 out : Bool
 deriving Inhabited,DecidableEq
def T.qo.enc (x : T.qo) : List PV :=
 [PV.sl x.cs.nil (szc 1 x.cs.l) (List.map qg x.cs.l),PV.sl x.offs.nil (szc 1 x.offs.l) (List.map qf x.offs.l),PV.bool x.fold,PV.int IntKind.i64 x.fuel,PV.bool x.out]
theorem T.qo.qx (x : T.qo) : x.enc = [PV.sl x.cs.nil (szc 1 x.cs.l) (List.map qg x.cs.l),PV.sl x.offs.nil (szc 1 x.offs.l) (List.map qf x.offs.l),PV.bool x.fold,PV.int IntKind.i64 x.fuel,PV.bool x.out] := rfl
def T.qo.ok (x : T.qo) : Prop := (yx yj) x.cs ∧ (yx inI) x.offs ∧ uy x.fold ∧ inI x.fuel ∧ uy x.out ∧ True
structure T.qy where
 kind : Int
 x : T.Rx
 g : Int
 many : Int
 frm : Int
 rest : (Option T.qy)
 deriving Inhabited
mutual
def T.qy.enc : T.qy → List PV
 | ⟨x0,x1,x2,x3,x4,x5⟩ => [PV.int IntKind.i64 x0,PV.int IntKind.i64 x1.kind,PV.str x1.char,PV.bool x1.not,PV.sl x1.rows.nil (szc 2 x1.rows.l) (List.map T.Row.enc x1.rows.l),PV.int IntKind.i64 x1.min,PV.int IntKind.i64 x1.max,PV.bool x1.lazy,PV.sl x1.kids.nil (szc 8 x1.kids.l) (List.map T.Rx.enc x1.kids.l),PV.int IntKind.i64 x2,PV.int IntKind.i64 x3,PV.int IntKind.i64 x4,T.qy.jk x5]
def T.qy.jk : Option T.qy → PV
 | none => .nilptr
 | some x => .rp x.enc
end
theorem T.qy.qp6 : T.qy.jk none = .nilptr := by simp [T.qy.jk]
theorem T.qy.qhv (x : T.qy) : T.qy.jk (some x) = .rp x.enc := by simp [T.qy.jk]
theorem T.qy.q7o {k : Option T.qy} {x : T.qy} (h : k = some x) : T.qy.jk k = .rp x.enc := by rw [h,T.qy.qhv]
theorem T.qy.qjn (k : Option T.qy) (H : Heap) : je .ptr (.pv (T.qy.jk k)) H = some k.isNone := by cases k <;> simp [T.qy.jk,je]
theorem T.qy.qn2 (k : Option T.qy) : AV.cells (.pv (T.qy.jk k)) = [.pv (T.qy.jk k)] := by cases k <;> simp [T.qy.jk,AV.cells]
theorem T.qy.znu (k : Option T.qy) (esz : TypeId → Option TI) (sz b : Nat) (z : List PV) (e : Bool) (H : Heap) : q3y esz .eql ⟨sz,b,.ptr,z,e⟩ (.pv (T.qy.jk k)) (.pv .nilptr) H = some (.bool (k.isNone)) := by cases k <;> simp [T.qy.jk,q3y,aEq,q81,je]
theorem T.qy.qx (x : T.qy) : x.enc = [PV.int IntKind.i64 x.kind,PV.int IntKind.i64 x.x.kind,PV.str x.x.char,PV.bool x.x.not,PV.sl x.x.rows.nil (szc 2 x.x.rows.l) (List.map T.Row.enc x.x.rows.l),PV.int IntKind.i64 x.x.min,PV.int IntKind.i64 x.x.max,PV.bool x.x.lazy,PV.sl x.x.kids.nil (szc 8 x.x.kids.l) (List.map T.Rx.enc x.x.kids.l),PV.int IntKind.i64 x.g,PV.int IntKind.i64 x.many,PV.int IntKind.i64 x.frm,T.qy.jk x.rest] := by cases x; simp [T.qy.enc]
def T.qy.ok (_ : T.qy) : Prop := True
def aw8 : Option Bool := some true
theorem zn {α : Type} {u0 u1 : Bool} {p q : Option α} {r : α} {P : Prop} (f : u0 = true → u1 = true → p = some r → P) (g : ((u0 = false ∧ Dum) ∨ (u0 = true ∧ u1 = false)) → q = some r → P) (h : (if (u0 && u1) = true then p else q) = some r) : P := by cases u0 <;> cases u1 <;> simp_all [Dum]
theorem qki {α : Type} {u0 u1 u2 : Bool} {p q : Option α} {r : α} {P : Prop} (f : u0 = true → u1 = true → u2 = true → p = some r → P) (g : ((u0 = false ∧ Dum ∧ Dum) ∨ (u0 = true ∧ u1 = false ∧ Dum) ∨ (u0 = true ∧ u1 = true ∧ u2 = false)) → q = some r → P) (h : (if (u0 && (u1 && u2)) = true then p else q) = some r) : P := by cases u0 <;> cases u1 <;> cases u2 <;> simp_all [Dum]
theorem qef {α : Type} {u0 u1 u2 u3 : Bool} {p q : Option α} {r : α} {P : Prop} (f : u0 = true → u1 = true → u2 = true → u3 = true → p = some r → P) (g : ((u0 = false ∧ Dum ∧ Dum ∧ Dum) ∨ (u0 = true ∧ u1 = false ∧ Dum ∧ Dum) ∨ (u0 = true ∧ u1 = true ∧ u2 = false ∧ Dum) ∨ (u0 = true ∧ u1 = true ∧ u2 = true ∧ u3 = false)) → q = some r → P) (h : (if (u0 && (u1 && (u2 && u3))) = true then p else q) = some r) : P := by cases u0 <;> cases u1 <;> cases u2 <;> cases u3 <;> simp_all [Dum]
theorem qvw {α : Type} {u0 u1 u2 u3 u4 : Bool} {p q : Option α} {r : α} {P : Prop} (f : u0 = true → u1 = true → u2 = true → u3 = true → u4 = true → p = some r → P) (g : ((u0 = false ∧ Dum ∧ Dum ∧ Dum ∧ Dum) ∨ (u0 = true ∧ u1 = false ∧ Dum ∧ Dum ∧ Dum) ∨ (u0 = true ∧ u1 = true ∧ u2 = false ∧ Dum ∧ Dum) ∨ (u0 = true ∧ u1 = true ∧ u2 = true ∧ u3 = false ∧ Dum) ∨ (u0 = true ∧ u1 = true ∧ u2 = true ∧ u3 = true ∧ u4 = false)) → q = some r → P) (h : (if (u0 && (u1 && (u2 && (u3 && u4)))) = true then p else q) = some r) : P := by cases u0 <;> cases u1 <;> cases u2 <;> cases u3 <;> cases u4 <;> simp_all [Dum]
theorem xy {α : Type} {u0 u1 : Bool} {p q : Option α} {r : α} {P : Prop} (f : ((u0 = true ∧ Dum) ∨ (u0 = false ∧ u1 = true)) → p = some r → P) (g : u0 = false → u1 = false → q = some r → P) (h : (if (u0 || u1) = true then p else q) = some r) : P := by cases u0 <;> cases u1 <;> simp_all [Dum]
theorem qcf {α : Type} {u0 u1 u2 : Bool} {p q : Option α} {r : α} {P : Prop} (f : ((u0 = true ∧ Dum ∧ Dum) ∨ (u0 = false ∧ u1 = true ∧ u2 = true)) → p = some r → P) (g : ((u0 = false ∧ u1 = false ∧ Dum) ∨ (u0 = false ∧ u1 = true ∧ u2 = false)) → q = some r → P) (h : (if (u0 || (u1 && u2)) = true then p else q) = some r) : P := by cases u0 <;> cases u1 <;> cases u2 <;> simp_all [Dum]
theorem qcn {α : Type} {u0 u1 u2 : Bool} {p q : Option α} {r : α} {P : Prop} (f : ((u0 = true ∧ Dum ∧ Dum) ∨ (u0 = false ∧ u1 = true ∧ Dum) ∨ (u0 = false ∧ u1 = false ∧ u2 = true)) → p = some r → P) (g : u0 = false → u1 = false → u2 = false → q = some r → P) (h : (if (u0 || (u1 || u2)) = true then p else q) = some r) : P := by cases u0 <;> cases u1 <;> cases u2 <;> simp_all [Dum]
theorem qg3 {α : Type} {u0 u1 u2 u3 : Bool} {p q : Option α} {r : α} {P : Prop} (f : ((u0 = true ∧ Dum ∧ Dum ∧ Dum) ∨ (u0 = false ∧ u1 = true ∧ Dum ∧ Dum) ∨ (u0 = false ∧ u1 = false ∧ u2 = true ∧ Dum) ∨ (u0 = false ∧ u1 = false ∧ u2 = false ∧ u3 = true)) → p = some r → P) (g : u0 = false → u1 = false → u2 = false → u3 = false → q = some r → P) (h : (if (u0 || (u1 || (u2 || u3))) = true then p else q) = some r) : P := by cases u0 <;> cases u1 <;> cases u2 <;> cases u3 <;> simp_all [Dum]
theorem z99 {α : Type} {u0 u1 u2 u3 u4 u5 : Bool} {p q : Option α} {r : α} {P : Prop} (f : ((u0 = true ∧ Dum ∧ Dum ∧ Dum ∧ Dum ∧ Dum) ∨ (u0 = false ∧ u1 = true ∧ Dum ∧ Dum ∧ Dum ∧ Dum) ∨ (u0 = false ∧ u1 = false ∧ u2 = true ∧ Dum ∧ Dum ∧ Dum) ∨ (u0 = false ∧ u1 = false ∧ u2 = false ∧ u3 = true ∧ u4 = true ∧ Dum) ∨ (u0 = false ∧ u1 = false ∧ u2 = false ∧ u3 = true ∧ u4 = false ∧ u5 = true)) → p = some r → P) (g : ((u0 = false ∧ u1 = false ∧ u2 = false ∧ u3 = false ∧ Dum ∧ Dum) ∨ (u0 = false ∧ u1 = false ∧ u2 = false ∧ u3 = true ∧ u4 = false ∧ u5 = false)) → q = some r → P) (h : (if (u0 || (u1 || (u2 || (u3 && (u4 || u5))))) = true then p else q) = some r) : P := by cases u0 <;> cases u1 <;> cases u2 <;> cases u3 <;> cases u4 <;> cases u5 <;> simp_all [Dum]
theorem qkm {α : Type} {u0 u1 u2 u3 u4 : Bool} {p q : Option α} {r : α} {P : Prop} (f : ((u0 = true ∧ Dum ∧ Dum ∧ Dum ∧ Dum) ∨ (u0 = false ∧ u1 = true ∧ Dum ∧ Dum ∧ Dum) ∨ (u0 = false ∧ u1 = false ∧ u2 = true ∧ Dum ∧ Dum) ∨ (u0 = false ∧ u1 = false ∧ u2 = false ∧ u3 = true ∧ Dum) ∨ (u0 = false ∧ u1 = false ∧ u2 = false ∧ u3 = false ∧ u4 = true)) → p = some r → P) (g : u0 = false → u1 = false → u2 = false → u3 = false → u4 = false → q = some r → P) (h : (if (u0 || (u1 || (u2 || (u3 || u4)))) = true then p else q) = some r) : P := by cases u0 <;> cases u1 <;> cases u2 <;> cases u3 <;> cases u4 <;> simp_all [Dum]
theorem zl5 {α : Type} {u0 u1 u2 u3 u4 u5 : Bool} {p q : Option α} {r : α} {P : Prop} (f : ((u0 = true ∧ Dum ∧ Dum ∧ Dum ∧ Dum ∧ Dum) ∨ (u0 = false ∧ u1 = true ∧ Dum ∧ Dum ∧ Dum ∧ Dum) ∨ (u0 = false ∧ u1 = false ∧ u2 = true ∧ Dum ∧ Dum ∧ Dum) ∨ (u0 = false ∧ u1 = false ∧ u2 = false ∧ u3 = true ∧ Dum ∧ Dum) ∨ (u0 = false ∧ u1 = false ∧ u2 = false ∧ u3 = false ∧ u4 = true ∧ Dum) ∨ (u0 = false ∧ u1 = false ∧ u2 = false ∧ u3 = false ∧ u4 = false ∧ u5 = true)) → p = some r → P) (g : u0 = false → u1 = false → u2 = false → u3 = false → u4 = false → u5 = false → q = some r → P) (h : (if (u0 || (u1 || (u2 || (u3 || (u4 || u5))))) = true then p else q) = some r) : P := by cases u0 <;> cases u1 <;> cases u2 <;> cases u3 <;> cases u4 <;> cases u5 <;> simp_all [Dum]
theorem z1j {α : Type} {u0 u1 u2 u3 u4 u5 u6 u7 : Bool} {p q : Option α} {r : α} {P : Prop} (f : ((u0 = true ∧ Dum ∧ Dum ∧ Dum ∧ Dum ∧ Dum ∧ Dum ∧ Dum) ∨ (u0 = false ∧ u1 = true ∧ Dum ∧ Dum ∧ Dum ∧ Dum ∧ Dum ∧ Dum) ∨ (u0 = false ∧ u1 = false ∧ u2 = true ∧ Dum ∧ Dum ∧ Dum ∧ Dum ∧ Dum) ∨ (u0 = false ∧ u1 = false ∧ u2 = false ∧ u3 = true ∧ Dum ∧ Dum ∧ Dum ∧ Dum) ∨ (u0 = false ∧ u1 = false ∧ u2 = false ∧ u3 = false ∧ u4 = true ∧ Dum ∧ Dum ∧ Dum) ∨ (u0 = false ∧ u1 = false ∧ u2 = false ∧ u3 = false ∧ u4 = false ∧ u5 = true ∧ Dum ∧ Dum) ∨ (u0 = false ∧ u1 = false ∧ u2 = false ∧ u3 = false ∧ u4 = false ∧ u5 = false ∧ u6 = true ∧ Dum) ∨ (u0 = false ∧ u1 = false ∧ u2 = false ∧ u3 = false ∧ u4 = false ∧ u5 = false ∧ u6 = false ∧ u7 = true)) → p = some r → P) (g : u0 = false → u1 = false → u2 = false → u3 = false → u4 = false → u5 = false → u6 = false → u7 = false → q = some r → P) (h : (if (u0 || (u1 || (u2 || (u3 || (u4 || (u5 || (u6 || u7))))))) = true then p else q) = some r) : P := by cases u0 <;> cases u1 <;> cases u2 <;> cases u3 <;> cases u4 <;> cases u5 <;> cases u6 <;> cases u7 <;> simp_all [Dum]
theorem zhr (n : Nat) : 0 + n = n := Nat.zero_add n
def en := PLift.up (And.intro (And.intro (And.intro (And.intro zc9.down (And.intro qzo.down @zhr)) (And.intro @Int.cast_ofNat_Int (And.intro @List.append_nil.{0} @List.nil_append.{0}))) (And.intro (And.intro @T.Span.qx (And.intro @T.Row.qx @T.Rx.qx)) (And.intro (And.intro @T.Fmt.qx @T.Form.qx) (And.intro @T.Stop.qx @T.zf.qx)))) (And.intro (And.intro (And.intro @T.qb.qx (And.intro @T.q4g.qx @T.qi.qx)) (And.intro (And.intro @T.qc.qx @T.q56.qx) (And.intro @T.q61.qx @T.qm.qx))) (And.intro (And.intro @T.qw.qx (And.intro @T.qo.qx @T.qy.qjn)) (And.intro (And.intro @T.qy.qn2 @T.qy.qp6) (And.intro @T.qy.qhv @T.qy.qx)))))
end Go.Proofs.YtdhgdeelagmbpaaGreat
