/-
  Go's structs as Lean's.
-/
import Derived.Test.YtdhgdeelagmbpaaGreatQad
set_option linter.unusedSimpArgs false
set_option linter.unusedVariables false
set_option maxRecDepth 100000
namespace Go.Proofs.YtdhgdeelagmbpaaGreat
open Go Go.Gm
structure T.Span where
 frm : Int
 to : Int
 deriving Inhabited,DecidableEq
def T.Span.enc (x : T.Span) : List PV :=
 [PV.int IntKind.i64 x.frm,PV.int IntKind.i64 x.to]
theorem T.Span.qz (x : T.Span) : x.enc = [PV.int IntKind.i64 x.frm,PV.int IntKind.i64 x.to] := rfl
def T.Span.ok (x : T.Span) : Prop := inI x.frm ∧ inI x.to ∧ True
structure T.Row where
 frm : Bytes
 to : Bytes
 deriving Inhabited,DecidableEq
def T.Row.enc (x : T.Row) : List PV :=
 [PV.str x.frm,PV.str x.to]
theorem T.Row.qz (x : T.Row) : x.enc = [PV.str x.frm,PV.str x.to] := rfl
def T.Row.ok (x : T.Row) : Prop := yj x.frm ∧ yj x.to ∧ True
structure T.Rx where
 kind : Int
 char : Bytes
 not : Bool
 rows : (Sl T.Row)
 min : Int
 max : Int
 lazy : Bool
 kids : (Sl T.Rx)
 deriving Inhabited
mutual
def T.Rx.enc : T.Rx → List PV
 | ⟨x0,x1,x2,x3,x4,x5,x6,x7⟩ => [PV.int IntKind.i64 x0,PV.str x1,PV.bool x2,PV.sl x3.nil (szc 2 x3.l) (List.map T.Row.enc x3.l),PV.int IntKind.i64 x4,PV.int IntKind.i64 x5,PV.bool x6,T.Rx.encS x7]
def T.Rx.encS : Sl T.Rx → PV
 | ⟨b,l⟩ => .sl b (szc 8 l) (T.Rx.q3m l)
def T.Rx.q3m : List T.Rx → List (List PV)
 | [] => []
 | x :: r => x.enc :: T.Rx.q3m r
end
theorem T.Rx.qcq : ∀ l : List T.Rx,T.Rx.q3m l = l.map T.Rx.enc
 | [] => rfl
 | x :: r => by simp [T.Rx.q3m,T.Rx.qcq r]
theorem T.Rx.qgp (s : Sl T.Rx) : T.Rx.encS s = .sl s.nil (szc 8 s.l) (s.l.map T.Rx.enc) := by cases s; simp [T.Rx.encS,T.Rx.qcq]
theorem T.Rx.qz (x : T.Rx) : x.enc = [PV.int IntKind.i64 x.kind,PV.str x.char,PV.bool x.not,PV.sl x.rows.nil (szc 2 x.rows.l) (List.map T.Row.enc x.rows.l),PV.int IntKind.i64 x.min,PV.int IntKind.i64 x.max,PV.bool x.lazy,PV.sl x.kids.nil (szc 8 x.kids.l) (List.map T.Rx.enc x.kids.l)] := by cases x; simp [T.Rx.enc,T.Rx.qgp]
mutual
def T.Rx.ok : T.Rx → Prop
 | ⟨x0,x1,x2,x3,x4,x5,x6,x7⟩ => inI x0 ∧ yj x1 ∧ q07 x2 ∧ (yn T.Row.ok) x3 ∧ inI x4 ∧ inI x5 ∧ q07 x6 ∧ T.Rx.okS x7 ∧ True
def T.Rx.okS : Sl T.Rx → Prop
 | ⟨b,l⟩ => (l.length ≤ maxLen ∧ (b = true → l = [])) ∧ T.Rx.okL l
def T.Rx.okL : List T.Rx → Prop
 | [] => True
 | x :: r => x.ok ∧ T.Rx.okL r
end
structure T.Fmt where
 kind : Int
 n : Int
 cas : Int
 thn : Bytes
 els : Bytes
 deriving Inhabited,DecidableEq
def T.Fmt.enc (x : T.Fmt) : List PV :=
 [PV.int IntKind.i64 x.kind,PV.int IntKind.i64 x.n,PV.int IntKind.i64 x.cas,PV.str x.thn,PV.str x.els]
theorem T.Fmt.qz (x : T.Fmt) : x.enc = [PV.int IntKind.i64 x.kind,PV.int IntKind.i64 x.n,PV.int IntKind.i64 x.cas,PV.str x.thn,PV.str x.els] := rfl
def T.Fmt.ok (x : T.Fmt) : Prop := inI x.kind ∧ inI x.n ∧ inI x.cas ∧ yj x.thn ∧ yj x.els ∧ True
structure T.Form where
 rx : T.Rx
 fmts : (Sl T.Fmt)
 fold : Bool
 all : Bool
 deriving Inhabited
def T.Form.enc (x : T.Form) : List PV :=
 [PV.int IntKind.i64 x.rx.kind,PV.str x.rx.char,PV.bool x.rx.not,PV.sl x.rx.rows.nil (szc 2 x.rx.rows.l) (List.map T.Row.enc x.rx.rows.l),PV.int IntKind.i64 x.rx.min,PV.int IntKind.i64 x.rx.max,PV.bool x.rx.lazy,PV.sl x.rx.kids.nil (szc 8 x.rx.kids.l) (List.map T.Rx.enc x.rx.kids.l),PV.sl x.fmts.nil (szc 5 x.fmts.l) (List.map T.Fmt.enc x.fmts.l),PV.bool x.fold,PV.bool x.all]
theorem T.Form.qz (x : T.Form) : x.enc = [PV.int IntKind.i64 x.rx.kind,PV.str x.rx.char,PV.bool x.rx.not,PV.sl x.rx.rows.nil (szc 2 x.rx.rows.l) (List.map T.Row.enc x.rx.rows.l),PV.int IntKind.i64 x.rx.min,PV.int IntKind.i64 x.rx.max,PV.bool x.rx.lazy,PV.sl x.rx.kids.nil (szc 8 x.rx.kids.l) (List.map T.Rx.enc x.rx.kids.l),PV.sl x.fmts.nil (szc 5 x.fmts.l) (List.map T.Fmt.enc x.fmts.l),PV.bool x.fold,PV.bool x.all] := rfl
def T.Form.ok (x : T.Form) : Prop := T.Rx.ok x.rx ∧ (yn T.Fmt.ok) x.fmts ∧ q07 x.fold ∧ q07 x.all ∧ True
structure T.Stop where
 span : T.Span
 n : Int
 up : Int
 first : Bool
 turned : Bool
 form : T.Form
 opts : (Sl Bytes)
 deriving Inhabited
def T.Stop.enc (x : T.Stop) : List PV :=
 [PV.int IntKind.i64 x.span.frm,PV.int IntKind.i64 x.span.to,PV.int IntKind.i64 x.n,PV.int IntKind.i64 x.up,PV.bool x.first,PV.bool x.turned,PV.int IntKind.i64 x.form.rx.kind,PV.str x.form.rx.char,PV.bool x.form.rx.not,PV.sl x.form.rx.rows.nil (szc 2 x.form.rx.rows.l) (List.map T.Row.enc x.form.rx.rows.l),PV.int IntKind.i64 x.form.rx.min,PV.int IntKind.i64 x.form.rx.max,PV.bool x.form.rx.lazy,PV.sl x.form.rx.kids.nil (szc 8 x.form.rx.kids.l) (List.map T.Rx.enc x.form.rx.kids.l),PV.sl x.form.fmts.nil (szc 5 x.form.fmts.l) (List.map T.Fmt.enc x.form.fmts.l),PV.bool x.form.fold,PV.bool x.form.all,PV.sl x.opts.nil (szc 1 x.opts.l) (List.map qh x.opts.l)]
theorem T.Stop.qz (x : T.Stop) : x.enc = [PV.int IntKind.i64 x.span.frm,PV.int IntKind.i64 x.span.to,PV.int IntKind.i64 x.n,PV.int IntKind.i64 x.up,PV.bool x.first,PV.bool x.turned,PV.int IntKind.i64 x.form.rx.kind,PV.str x.form.rx.char,PV.bool x.form.rx.not,PV.sl x.form.rx.rows.nil (szc 2 x.form.rx.rows.l) (List.map T.Row.enc x.form.rx.rows.l),PV.int IntKind.i64 x.form.rx.min,PV.int IntKind.i64 x.form.rx.max,PV.bool x.form.rx.lazy,PV.sl x.form.rx.kids.nil (szc 8 x.form.rx.kids.l) (List.map T.Rx.enc x.form.rx.kids.l),PV.sl x.form.fmts.nil (szc 5 x.form.fmts.l) (List.map T.Fmt.enc x.form.fmts.l),PV.bool x.form.fold,PV.bool x.form.all,PV.sl x.opts.nil (szc 1 x.opts.l) (List.map qh x.opts.l)] := rfl
def T.Stop.ok (x : T.Stop) : Prop := T.Span.ok x.span ∧ inI x.n ∧ inI x.up ∧ q07 x.first ∧ q07 x.turned ∧ T.Form.ok x.form ∧ (yn yj) x.opts ∧ True
structure T.za where
 span : T.Span
 stops : (Sl T.Stop)
 deriving Inhabited
def T.za.enc (x : T.za) : List PV :=
 [PV.int IntKind.i64 x.span.frm,PV.int IntKind.i64 x.span.to,PV.sl x.stops.nil (szc 18 x.stops.l) (List.map T.Stop.enc x.stops.l)]
theorem T.za.qz (x : T.za) : x.enc = [PV.int IntKind.i64 x.span.frm,PV.int IntKind.i64 x.span.to,PV.sl x.stops.nil (szc 18 x.stops.l) (List.map T.Stop.enc x.stops.l)] := rfl
def T.za.ok (x : T.za) : Prop := T.Span.ok x.span ∧ (yn T.Stop.ok) x.stops ∧ True
structure T.qc where
 kind : Int
 text : Bytes
 n : Int
 has : Bool
 turned : Bool
 form : T.Form
 opts : (Sl Bytes)
 kids : (Sl T.qc)
 deriving Inhabited
mutual
def T.qc.enc : T.qc → List PV
 | ⟨x0,x1,x2,x3,x4,x5,x6,x7⟩ => [PV.int IntKind.i64 x0,PV.str x1,PV.int IntKind.i64 x2,PV.bool x3,PV.bool x4,PV.int IntKind.i64 x5.rx.kind,PV.str x5.rx.char,PV.bool x5.rx.not,PV.sl x5.rx.rows.nil (szc 2 x5.rx.rows.l) (List.map T.Row.enc x5.rx.rows.l),PV.int IntKind.i64 x5.rx.min,PV.int IntKind.i64 x5.rx.max,PV.bool x5.rx.lazy,PV.sl x5.rx.kids.nil (szc 8 x5.rx.kids.l) (List.map T.Rx.enc x5.rx.kids.l),PV.sl x5.fmts.nil (szc 5 x5.fmts.l) (List.map T.Fmt.enc x5.fmts.l),PV.bool x5.fold,PV.bool x5.all,PV.sl x6.nil (szc 1 x6.l) (List.map qh x6.l),T.qc.encS x7]
def T.qc.encS : Sl T.qc → PV
 | ⟨b,l⟩ => .sl b (szc 18 l) (T.qc.q3m l)
def T.qc.q3m : List T.qc → List (List PV)
 | [] => []
 | x :: r => x.enc :: T.qc.q3m r
end
theorem T.qc.qcq : ∀ l : List T.qc,T.qc.q3m l = l.map T.qc.enc
 | [] => rfl
 | x :: r => by simp [T.qc.q3m,T.qc.qcq r]
theorem T.qc.qgp (s : Sl T.qc) : T.qc.encS s = .sl s.nil (szc 18 s.l) (s.l.map T.qc.enc) := by cases s; simp [T.qc.encS,T.qc.qcq]
theorem T.qc.qz (x : T.qc) : x.enc = [PV.int IntKind.i64 x.kind,PV.str x.text,PV.int IntKind.i64 x.n,PV.bool x.has,PV.bool x.turned,PV.int IntKind.i64 x.form.rx.kind,PV.str x.form.rx.char,PV.bool x.form.rx.not,PV.sl x.form.rx.rows.nil (szc 2 x.form.rx.rows.l) (List.map T.Row.enc x.form.rx.rows.l),PV.int IntKind.i64 x.form.rx.min,PV.int IntKind.i64 x.form.rx.max,PV.bool x.form.rx.lazy,PV.sl x.form.rx.kids.nil (szc 8 x.form.rx.kids.l) (List.map T.Rx.enc x.form.rx.kids.l),PV.sl x.form.fmts.nil (szc 5 x.form.fmts.l) (List.map T.Fmt.enc x.form.fmts.l),PV.bool x.form.fold,PV.bool x.form.all,PV.sl x.opts.nil (szc 1 x.opts.l) (List.map qh x.opts.l),PV.sl x.kids.nil (szc 18 x.kids.l) (List.map T.qc.enc x.kids.l)] := by cases x; simp [T.qc.enc,T.qc.qgp]
mutual
def T.qc.ok : T.qc → Prop
 | ⟨x0,x1,x2,x3,x4,x5,x6,x7⟩ => inI x0 ∧ yj x1 ∧ inI x2 ∧ q07 x3 ∧ q07 x4 ∧ T.Form.ok x5 ∧ (yn yj) x6 ∧ T.qc.okS x7 ∧ True
def T.qc.okS : Sl T.qc → Prop
 | ⟨b,l⟩ => (l.length ≤ maxLen ∧ (b = true → l = [])) ∧ T.qc.okL l
def T.qc.okL : List T.qc → Prop
 | [] => True
 | x :: r => x.ok ∧ T.qc.okL r
end
structure T.q54 where
 s : Bytes
 what : (Sl T.qc)
 ends : (Sl Int)
 deriving Inhabited
def T.q54.enc (x : T.q54) : List PV :=
 [PV.str x.s,PV.sl x.what.nil (szc 18 x.what.l) (List.map T.qc.enc x.what.l),PV.sl x.ends.nil (szc 1 x.ends.l) (List.map qb x.ends.l)]
theorem T.q54.qz (x : T.q54) : x.enc = [PV.str x.s,PV.sl x.what.nil (szc 18 x.what.l) (List.map T.qc.enc x.what.l),PV.sl x.ends.nil (szc 1 x.ends.l) (List.map qb x.ends.l)] := rfl
def T.q54.ok (x : T.q54) : Prop := yj x.s ∧ (yn T.qc.ok) x.what ∧ (yn inI) x.ends ∧ True
structure T.qi where
 name : Bytes
 value : Bytes
 deriving Inhabited,DecidableEq
def T.qi.enc (x : T.qi) : List PV :=
 [PV.str x.name,PV.str x.value]
theorem T.qi.qz (x : T.qi) : x.enc = [PV.str x.name,PV.str x.value] := rfl
def T.qi.ok (x : T.qi) : Prop := yj x.name ∧ yj x.value ∧ True
structure T.qf where
 kind : Int
 text : Bytes
 n : Int
 def_ : Bool
 first : Bool
 turned : Bool
 form : T.Form
 opts : (Sl Bytes)
 up : Int
 end_ : Int
 deriving Inhabited
def T.qf.enc (x : T.qf) : List PV :=
 [PV.int IntKind.i64 x.kind,PV.str x.text,PV.int IntKind.i64 x.n,PV.bool x.def_,PV.bool x.first,PV.bool x.turned,PV.int IntKind.i64 x.form.rx.kind,PV.str x.form.rx.char,PV.bool x.form.rx.not,PV.sl x.form.rx.rows.nil (szc 2 x.form.rx.rows.l) (List.map T.Row.enc x.form.rx.rows.l),PV.int IntKind.i64 x.form.rx.min,PV.int IntKind.i64 x.form.rx.max,PV.bool x.form.rx.lazy,PV.sl x.form.rx.kids.nil (szc 8 x.form.rx.kids.l) (List.map T.Rx.enc x.form.rx.kids.l),PV.sl x.form.fmts.nil (szc 5 x.form.fmts.l) (List.map T.Fmt.enc x.form.fmts.l),PV.bool x.form.fold,PV.bool x.form.all,PV.sl x.opts.nil (szc 1 x.opts.l) (List.map qh x.opts.l),PV.int IntKind.i64 x.up,PV.int IntKind.i64 x.end_]
theorem T.qf.qz (x : T.qf) : x.enc = [PV.int IntKind.i64 x.kind,PV.str x.text,PV.int IntKind.i64 x.n,PV.bool x.def_,PV.bool x.first,PV.bool x.turned,PV.int IntKind.i64 x.form.rx.kind,PV.str x.form.rx.char,PV.bool x.form.rx.not,PV.sl x.form.rx.rows.nil (szc 2 x.form.rx.rows.l) (List.map T.Row.enc x.form.rx.rows.l),PV.int IntKind.i64 x.form.rx.min,PV.int IntKind.i64 x.form.rx.max,PV.bool x.form.rx.lazy,PV.sl x.form.rx.kids.nil (szc 8 x.form.rx.kids.l) (List.map T.Rx.enc x.form.rx.kids.l),PV.sl x.form.fmts.nil (szc 5 x.form.fmts.l) (List.map T.Fmt.enc x.form.fmts.l),PV.bool x.form.fold,PV.bool x.form.all,PV.sl x.opts.nil (szc 1 x.opts.l) (List.map qh x.opts.l),PV.int IntKind.i64 x.up,PV.int IntKind.i64 x.end_] := rfl
def T.qf.ok (x : T.qf) : Prop := inI x.kind ∧ yj x.text ∧ inI x.n ∧ q07 x.def_ ∧ q07 x.first ∧ q07 x.turned ∧ T.Form.ok x.form ∧ (yn yj) x.opts ∧ inI x.up ∧ inI x.end_ ∧ True
structure T.q5h where
 env : (Sl T.qi)
 lead : Bytes
 unit : Bytes
 parts : (Sl T.qf)
 defs : (Sl Int)
 names : (Sl Bytes)
 deriving Inhabited
def T.q5h.enc (x : T.q5h) : List PV :=
 [PV.sl x.env.nil (szc 2 x.env.l) (List.map T.qi.enc x.env.l),PV.str x.lead,PV.str x.unit,PV.sl x.parts.nil (szc 20 x.parts.l) (List.map T.qf.enc x.parts.l),PV.sl x.defs.nil (szc 1 x.defs.l) (List.map qb x.defs.l),PV.sl x.names.nil (szc 1 x.names.l) (List.map qh x.names.l)]
theorem T.q5h.qz (x : T.q5h) : x.enc = [PV.sl x.env.nil (szc 2 x.env.l) (List.map T.qi.enc x.env.l),PV.str x.lead,PV.str x.unit,PV.sl x.parts.nil (szc 20 x.parts.l) (List.map T.qf.enc x.parts.l),PV.sl x.defs.nil (szc 1 x.defs.l) (List.map qb x.defs.l),PV.sl x.names.nil (szc 1 x.names.l) (List.map qh x.names.l)] := rfl
def T.q5h.ok (x : T.q5h) : Prop := (yn T.qi.ok) x.env ∧ yj x.lead ∧ yj x.unit ∧ (yn T.qf.ok) x.parts ∧ (yn inI) x.defs ∧ (yn yj) x.names ∧ True
structure T.q4s where
 ns : (Sl Int)
 ts : (Sl Bytes)
 deriving Inhabited,DecidableEq
def T.q4s.enc (x : T.q4s) : List PV :=
 [PV.sl x.ns.nil (szc 1 x.ns.l) (List.map qb x.ns.l),PV.sl x.ts.nil (szc 1 x.ts.l) (List.map qh x.ts.l)]
theorem T.q4s.qz (x : T.q4s) : x.enc = [PV.sl x.ns.nil (szc 1 x.ns.l) (List.map qb x.ns.l),PV.sl x.ts.nil (szc 1 x.ts.l) (List.map qh x.ts.l)] := rfl
def T.q4s.ok (x : T.q4s) : Prop := (yn inI) x.ns ∧ (yn yj) x.ts ∧ True
structure T.qm where
 cs : (Sl Bytes)
 at_ : Int
 deriving Inhabited,DecidableEq
def T.qm.enc (x : T.qm) : List PV :=
 [PV.sl x.cs.nil (szc 1 x.cs.l) (List.map qh x.cs.l),PV.int IntKind.i64 x.at_]
theorem T.qm.qz (x : T.qm) : x.enc = [PV.sl x.cs.nil (szc 1 x.cs.l) (List.map qh x.cs.l),PV.int IntKind.i64 x.at_] := rfl
def T.qm.ok (x : T.qm) : Prop := (yn yj) x.cs ∧ inI x.at_ ∧ True
structure T.qp where
 span : T.Span
 parts : (Sl T.Span)
 deriving Inhabited,DecidableEq
def T.qp.enc (x : T.qp) : List PV :=
 [PV.int IntKind.i64 x.span.frm,PV.int IntKind.i64 x.span.to,PV.sl x.parts.nil (szc 2 x.parts.l) (List.map T.Span.enc x.parts.l)]
theorem T.qp.qz (x : T.qp) : x.enc = [PV.int IntKind.i64 x.span.frm,PV.int IntKind.i64 x.span.to,PV.sl x.parts.nil (szc 2 x.parts.l) (List.map T.Span.enc x.parts.l)] := rfl
def T.qp.ok (x : T.qp) : Prop := T.Span.ok x.span ∧ (yn T.Span.ok) x.parts ∧ True
structure T.qo where
 cs : (Sl Bytes)
 offs : (Sl Int)
 fold : Bool
 fuel : Int
 out : Bool
 deriving Inhabited,DecidableEq
def T.qo.enc (x : T.qo) : List PV :=
 [PV.sl x.cs.nil (szc 1 x.cs.l) (List.map qh x.cs.l),PV.sl x.offs.nil (szc 1 x.offs.l) (List.map qb x.offs.l),PV.bool x.fold,PV.int IntKind.i64 x.fuel,PV.bool x.out]
theorem T.qo.qz (x : T.qo) : x.enc = [PV.sl x.cs.nil (szc 1 x.cs.l) (List.map qh x.cs.l),PV.sl x.offs.nil (szc 1 x.offs.l) (List.map qb x.offs.l),PV.bool x.fold,PV.int IntKind.i64 x.fuel,PV.bool x.out] := rfl
def T.qo.ok (x : T.qo) : Prop := (yn yj) x.cs ∧ (yn inI) x.offs ∧ q07 x.fold ∧ inI x.fuel ∧ q07 x.out ∧ True
structure T.qw where
 kind : Int
 x : T.Rx
 g : Int
 many : Int
 frm : Int
 rest : (Option T.qw)
 deriving Inhabited
mutual
def T.qw.enc : T.qw → List PV
 | ⟨x0,x1,x2,x3,x4,x5⟩ => [PV.int IntKind.i64 x0,PV.int IntKind.i64 x1.kind,PV.str x1.char,PV.bool x1.not,PV.sl x1.rows.nil (szc 2 x1.rows.l) (List.map T.Row.enc x1.rows.l),PV.int IntKind.i64 x1.min,PV.int IntKind.i64 x1.max,PV.bool x1.lazy,PV.sl x1.kids.nil (szc 8 x1.kids.l) (List.map T.Rx.enc x1.kids.l),PV.int IntKind.i64 x2,PV.int IntKind.i64 x3,PV.int IntKind.i64 x4,T.qw.jm x5]
def T.qw.jm : Option T.qw → PV
 | none => .nilptr
 | some x => .rp x.enc
end
theorem T.qw.qoa : T.qw.jm none = .nilptr := by simp [T.qw.jm]
theorem T.qw.qia (x : T.qw) : T.qw.jm (some x) = .rp x.enc := by simp [T.qw.jm]
theorem T.qw.q7f {k : Option T.qw} {x : T.qw} (h : k = some x) : T.qw.jm k = .rp x.enc := by rw [h,T.qw.qia]
theorem T.qw.qka (k : Option T.qw) (H : Heap) : jc .ptr (.pv (T.qw.jm k)) H = some k.isNone := by cases k <;> simp [T.qw.jm,jc]
theorem T.qw.qk2 (k : Option T.qw) : AV.cells (.pv (T.qw.jm k)) = [.pv (T.qw.jm k)] := by cases k <;> simp [T.qw.jm,AV.cells]
theorem T.qw.zbt (k : Option T.qw) (esz : TypeId → Option TI) (sz b : Nat) (z : List PV) (e : Bool) (H : Heap) : q3y esz .eql ⟨sz,b,.ptr,z,e⟩ (.pv (T.qw.jm k)) (.pv .nilptr) H = some (.bool (k.isNone)) := by cases k <;> simp [T.qw.jm,q3y,aEq,q8e,jc]
theorem T.qw.qz (x : T.qw) : x.enc = [PV.int IntKind.i64 x.kind,PV.int IntKind.i64 x.x.kind,PV.str x.x.char,PV.bool x.x.not,PV.sl x.x.rows.nil (szc 2 x.x.rows.l) (List.map T.Row.enc x.x.rows.l),PV.int IntKind.i64 x.x.min,PV.int IntKind.i64 x.x.max,PV.bool x.x.lazy,PV.sl x.x.kids.nil (szc 8 x.x.kids.l) (List.map T.Rx.enc x.x.kids.l),PV.int IntKind.i64 x.g,PV.int IntKind.i64 x.many,PV.int IntKind.i64 x.frm,T.qw.jm x.rest] := by cases x; simp [T.qw.enc]
def T.qw.ok (_ : T.qw) : Prop := True
def aw8 : Option Bool := some true
theorem zo {α : Type} {u0 u1 : Bool} {p q : Option α} {r : α} {P : Prop} (f : u0 = true → u1 = true → p = some r → P) (g : ((u0 = false ∧ Dum) ∨ (u0 = true ∧ u1 = false)) → q = some r → P) (h : (if (u0 && u1) = true then p else q) = some r) : P := by cases u0 <;> cases u1 <;> simp_all [Dum]
theorem qja {α : Type} {u0 u1 u2 : Bool} {p q : Option α} {r : α} {P : Prop} (f : u0 = true → u1 = true → u2 = true → p = some r → P) (g : ((u0 = false ∧ Dum ∧ Dum) ∨ (u0 = true ∧ u1 = false ∧ Dum) ∨ (u0 = true ∧ u1 = true ∧ u2 = false)) → q = some r → P) (h : (if (u0 && (u1 && u2)) = true then p else q) = some r) : P := by cases u0 <;> cases u1 <;> cases u2 <;> simp_all [Dum]
theorem qef {α : Type} {u0 u1 u2 u3 : Bool} {p q : Option α} {r : α} {P : Prop} (f : u0 = true → u1 = true → u2 = true → u3 = true → p = some r → P) (g : ((u0 = false ∧ Dum ∧ Dum ∧ Dum) ∨ (u0 = true ∧ u1 = false ∧ Dum ∧ Dum) ∨ (u0 = true ∧ u1 = true ∧ u2 = false ∧ Dum) ∨ (u0 = true ∧ u1 = true ∧ u2 = true ∧ u3 = false)) → q = some r → P) (h : (if (u0 && (u1 && (u2 && u3))) = true then p else q) = some r) : P := by cases u0 <;> cases u1 <;> cases u2 <;> cases u3 <;> simp_all [Dum]
theorem zn2 {α : Type} {u0 u1 u2 u3 u4 : Bool} {p q : Option α} {r : α} {P : Prop} (f : u0 = true → u1 = true → u2 = true → u3 = true → u4 = true → p = some r → P) (g : ((u0 = false ∧ Dum ∧ Dum ∧ Dum ∧ Dum) ∨ (u0 = true ∧ u1 = false ∧ Dum ∧ Dum ∧ Dum) ∨ (u0 = true ∧ u1 = true ∧ u2 = false ∧ Dum ∧ Dum) ∨ (u0 = true ∧ u1 = true ∧ u2 = true ∧ u3 = false ∧ Dum) ∨ (u0 = true ∧ u1 = true ∧ u2 = true ∧ u3 = true ∧ u4 = false)) → q = some r → P) (h : (if (u0 && (u1 && (u2 && (u3 && u4)))) = true then p else q) = some r) : P := by cases u0 <;> cases u1 <;> cases u2 <;> cases u3 <;> cases u4 <;> simp_all [Dum]
theorem xy {α : Type} {u0 u1 : Bool} {p q : Option α} {r : α} {P : Prop} (f : ((u0 = true ∧ Dum) ∨ (u0 = false ∧ u1 = true)) → p = some r → P) (g : u0 = false → u1 = false → q = some r → P) (h : (if (u0 || u1) = true then p else q) = some r) : P := by cases u0 <;> cases u1 <;> simp_all [Dum]
theorem qht {α : Type} {u0 u1 u2 : Bool} {p q : Option α} {r : α} {P : Prop} (f : ((u0 = true ∧ Dum ∧ Dum) ∨ (u0 = false ∧ u1 = true ∧ u2 = true)) → p = some r → P) (g : ((u0 = false ∧ u1 = false ∧ Dum) ∨ (u0 = false ∧ u1 = true ∧ u2 = false)) → q = some r → P) (h : (if (u0 || (u1 && u2)) = true then p else q) = some r) : P := by cases u0 <;> cases u1 <;> cases u2 <;> simp_all [Dum]
theorem q9x {α : Type} {u0 u1 u2 : Bool} {p q : Option α} {r : α} {P : Prop} (f : ((u0 = true ∧ Dum ∧ Dum) ∨ (u0 = false ∧ u1 = true ∧ Dum) ∨ (u0 = false ∧ u1 = false ∧ u2 = true)) → p = some r → P) (g : u0 = false → u1 = false → u2 = false → q = some r → P) (h : (if (u0 || (u1 || u2)) = true then p else q) = some r) : P := by cases u0 <;> cases u1 <;> cases u2 <;> simp_all [Dum]
theorem qh5 {α : Type} {u0 u1 u2 u3 : Bool} {p q : Option α} {r : α} {P : Prop} (f : ((u0 = true ∧ Dum ∧ Dum ∧ Dum) ∨ (u0 = false ∧ u1 = true ∧ Dum ∧ Dum) ∨ (u0 = false ∧ u1 = false ∧ u2 = true ∧ Dum) ∨ (u0 = false ∧ u1 = false ∧ u2 = false ∧ u3 = true)) → p = some r → P) (g : u0 = false → u1 = false → u2 = false → u3 = false → q = some r → P) (h : (if (u0 || (u1 || (u2 || u3))) = true then p else q) = some r) : P := by cases u0 <;> cases u1 <;> cases u2 <;> cases u3 <;> simp_all [Dum]
theorem zjb {α : Type} {u0 u1 u2 u3 u4 u5 : Bool} {p q : Option α} {r : α} {P : Prop} (f : ((u0 = true ∧ Dum ∧ Dum ∧ Dum ∧ Dum ∧ Dum) ∨ (u0 = false ∧ u1 = true ∧ Dum ∧ Dum ∧ Dum ∧ Dum) ∨ (u0 = false ∧ u1 = false ∧ u2 = true ∧ Dum ∧ Dum ∧ Dum) ∨ (u0 = false ∧ u1 = false ∧ u2 = false ∧ u3 = true ∧ u4 = true ∧ Dum) ∨ (u0 = false ∧ u1 = false ∧ u2 = false ∧ u3 = true ∧ u4 = false ∧ u5 = true)) → p = some r → P) (g : ((u0 = false ∧ u1 = false ∧ u2 = false ∧ u3 = false ∧ Dum ∧ Dum) ∨ (u0 = false ∧ u1 = false ∧ u2 = false ∧ u3 = true ∧ u4 = false ∧ u5 = false)) → q = some r → P) (h : (if (u0 || (u1 || (u2 || (u3 && (u4 || u5))))) = true then p else q) = some r) : P := by cases u0 <;> cases u1 <;> cases u2 <;> cases u3 <;> cases u4 <;> cases u5 <;> simp_all [Dum]
theorem qlx {α : Type} {u0 u1 u2 u3 u4 : Bool} {p q : Option α} {r : α} {P : Prop} (f : ((u0 = true ∧ Dum ∧ Dum ∧ Dum ∧ Dum) ∨ (u0 = false ∧ u1 = true ∧ Dum ∧ Dum ∧ Dum) ∨ (u0 = false ∧ u1 = false ∧ u2 = true ∧ Dum ∧ Dum) ∨ (u0 = false ∧ u1 = false ∧ u2 = false ∧ u3 = true ∧ Dum) ∨ (u0 = false ∧ u1 = false ∧ u2 = false ∧ u3 = false ∧ u4 = true)) → p = some r → P) (g : u0 = false → u1 = false → u2 = false → u3 = false → u4 = false → q = some r → P) (h : (if (u0 || (u1 || (u2 || (u3 || u4)))) = true then p else q) = some r) : P := by cases u0 <;> cases u1 <;> cases u2 <;> cases u3 <;> cases u4 <;> simp_all [Dum]
theorem qsd {α : Type} {u0 u1 u2 u3 u4 u5 : Bool} {p q : Option α} {r : α} {P : Prop} (f : ((u0 = true ∧ Dum ∧ Dum ∧ Dum ∧ Dum ∧ Dum) ∨ (u0 = false ∧ u1 = true ∧ Dum ∧ Dum ∧ Dum ∧ Dum) ∨ (u0 = false ∧ u1 = false ∧ u2 = true ∧ Dum ∧ Dum ∧ Dum) ∨ (u0 = false ∧ u1 = false ∧ u2 = false ∧ u3 = true ∧ Dum ∧ Dum) ∨ (u0 = false ∧ u1 = false ∧ u2 = false ∧ u3 = false ∧ u4 = true ∧ Dum) ∨ (u0 = false ∧ u1 = false ∧ u2 = false ∧ u3 = false ∧ u4 = false ∧ u5 = true)) → p = some r → P) (g : u0 = false → u1 = false → u2 = false → u3 = false → u4 = false → u5 = false → q = some r → P) (h : (if (u0 || (u1 || (u2 || (u3 || (u4 || u5))))) = true then p else q) = some r) : P := by cases u0 <;> cases u1 <;> cases u2 <;> cases u3 <;> cases u4 <;> cases u5 <;> simp_all [Dum]
theorem zrz {α : Type} {u0 u1 u2 u3 u4 u5 u6 u7 : Bool} {p q : Option α} {r : α} {P : Prop} (f : ((u0 = true ∧ Dum ∧ Dum ∧ Dum ∧ Dum ∧ Dum ∧ Dum ∧ Dum) ∨ (u0 = false ∧ u1 = true ∧ Dum ∧ Dum ∧ Dum ∧ Dum ∧ Dum ∧ Dum) ∨ (u0 = false ∧ u1 = false ∧ u2 = true ∧ Dum ∧ Dum ∧ Dum ∧ Dum ∧ Dum) ∨ (u0 = false ∧ u1 = false ∧ u2 = false ∧ u3 = true ∧ Dum ∧ Dum ∧ Dum ∧ Dum) ∨ (u0 = false ∧ u1 = false ∧ u2 = false ∧ u3 = false ∧ u4 = true ∧ Dum ∧ Dum ∧ Dum) ∨ (u0 = false ∧ u1 = false ∧ u2 = false ∧ u3 = false ∧ u4 = false ∧ u5 = true ∧ Dum ∧ Dum) ∨ (u0 = false ∧ u1 = false ∧ u2 = false ∧ u3 = false ∧ u4 = false ∧ u5 = false ∧ u6 = true ∧ Dum) ∨ (u0 = false ∧ u1 = false ∧ u2 = false ∧ u3 = false ∧ u4 = false ∧ u5 = false ∧ u6 = false ∧ u7 = true)) → p = some r → P) (g : u0 = false → u1 = false → u2 = false → u3 = false → u4 = false → u5 = false → u6 = false → u7 = false → q = some r → P) (h : (if (u0 || (u1 || (u2 || (u3 || (u4 || (u5 || (u6 || u7))))))) = true then p else q) = some r) : P := by cases u0 <;> cases u1 <;> cases u2 <;> cases u3 <;> cases u4 <;> cases u5 <;> cases u6 <;> cases u7 <;> simp_all [Dum]
theorem z5g (n : Nat) : 0 + n = n := Nat.zero_add n
def en := PLift.up (And.intro (And.intro (And.intro (And.intro zic.down (And.intro znr.down @z5g)) (And.intro @Int.cast_ofNat_Int (And.intro @List.append_nil.{0} @List.nil_append.{0}))) (And.intro (And.intro @T.Span.qz (And.intro @T.Row.qz @T.Rx.qz)) (And.intro (And.intro @T.Fmt.qz @T.Form.qz) (And.intro @T.Stop.qz @T.za.qz)))) (And.intro (And.intro (And.intro @T.qc.qz (And.intro @T.q54.qz @T.qi.qz)) (And.intro (And.intro @T.qf.qz @T.q5h.qz) (And.intro @T.q4s.qz @T.qm.qz))) (And.intro (And.intro @T.qp.qz (And.intro @T.qo.qz @T.qw.qka)) (And.intro (And.intro @T.qw.qk2 @T.qw.qoa) (And.intro @T.qw.qia @T.qw.qz)))))
end Go.Proofs.YtdhgdeelagmbpaaGreat
