/-
  Go's structs as Lean's.
-/
import Derived.Test.YtmllebdamdnhoaaGreatAad
set_option linter.unusedSimpArgs false
set_option linter.unusedVariables false
set_option maxRecDepth 100000
namespace Go.Proofs.YtmllebdamdnhoaaGreat
open Go Go.Gm
structure ql where
 qO:Int
 to:Int
 deriving Inhabited,DecidableEq
def ql.enc(x:ql):List PV:=
 [PV.int IntKind.i64 x.qO,PV.int IntKind.i64 x.to]
theorem ql.qN(x:ql):x.enc=[PV.int IntKind.i64 x.qO,PV.int IntKind.i64 x.to]:=rfl
def ql.ok(x:ql):Prop:=fS x.qO/\fS x.to/\True
structure qx where
 anchor:Int
 head:Int
 deriving Inhabited,DecidableEq
def qx.enc(x:qx):List PV:=
 [PV.int IntKind.i64 x.anchor,PV.int IntKind.i64 x.head]
theorem qx.qN(x:qx):x.enc=[PV.int IntKind.i64 x.anchor,PV.int IntKind.i64 x.head]:=rfl
def qx.ok(x:qx):Prop:=fS x.anchor/\fS x.head/\True
structure qT where
 qO:qa
 to:qa
 deriving Inhabited,DecidableEq
def qT.enc(x:qT):List PV:=
 [PV.str x.qO,PV.str x.to]
theorem qT.qN(x:qT):x.enc=[PV.str x.qO,PV.str x.to]:=rfl
def qT.ok(x:qT):Prop:=bK x.qO/\bK x.to/\True
structure qE where
 kind:Int
 char:qa
 not:Bool
 rows:(Sl qT)
 min:Int
 max:Int
 lazy:Bool
 qy:(Sl qE)
 deriving Inhabited
mutual
def qE.enc:qE->List PV
 |⟨x0,x1,x2,x3,x4,x5,x6,x7⟩=>[PV.int IntKind.i64 x0,PV.str x1,PV.bool x2,PV.sl x3.nil (zC 2 x3.l) (List.map qT.enc x3.l),PV.int IntKind.i64 x4,PV.int IntKind.i64 x5,PV.bool x6,qE.Jp x7]
def qE.Jp:Sl qE->PV
 |⟨b,l⟩=> .sl b (zC 8 l) (qE.Q8 l)
def qE.Q8:List qE->List (List PV)
 |[]=>[]
 |x::r=>x.enc::qE.Q8 r
end
theorem qE.rO: ∀l:List qE,qE.Q8 l=l.map qE.enc
 |[]=>rfl
 |x::r=>by simp[qE.Q8,qE.rO r]
theorem qE.Q9(s:Sl qE):qE.Jp s= .sl s.nil (zC 8 s.l) (s.l.map qE.enc):=by cases s;simp[qE.Jp,qE.rO]
theorem qE.qN(x:qE):x.enc=[PV.int IntKind.i64 x.kind,PV.str x.char,PV.bool x.not,PV.sl x.rows.nil (zC 2 x.rows.l) (List.map qT.enc x.rows.l),PV.int IntKind.i64 x.min,PV.int IntKind.i64 x.max,PV.bool x.lazy,PV.sl x.qy.nil (zC 8 x.qy.l) (List.map qE.enc x.qy.l)]:=by cases x;simp[qE.enc,qE.Q9]
mutual
def qE.ok:qE->Prop
 |⟨x0,x1,x2,x3,x4,x5,x6,x7⟩=>fS x0/\bK x1/\ga x2/\(bq qT.ok) x3/\fS x4/\fS x5/\ga x6/\qE.okS x7/\True
def qE.okS:Sl qE->Prop
 |⟨b,l⟩=>(l.length<=maxLen/\(b=true->l=[]))/\qE.okL l
def qE.okL:List qE->Prop
 |[]=>True
 |x::r=>x.ok/\qE.okL r
end
structure zl where
 kind:Int
 n:Int
 WD:Int
 i7:qa
 oH:qa
 deriving Inhabited,DecidableEq
def zl.enc(x:zl):List PV:=
 [PV.int IntKind.i64 x.kind,PV.int IntKind.i64 x.n,PV.int IntKind.i64 x.WD,PV.str x.i7,PV.str x.oH]
theorem zl.qN(x:zl):x.enc=[PV.int IntKind.i64 x.kind,PV.int IntKind.i64 x.n,PV.int IntKind.i64 x.WD,PV.str x.i7,PV.str x.oH]:=rfl
def zl.ok(x:zl):Prop:=fS x.kind/\fS x.n/\fS x.WD/\bK x.i7/\bK x.oH/\True
structure zf where
 rx:qE
 uz:(Sl zl)
 fold:Bool
 all:Bool
 deriving Inhabited
def zf.enc(x:zf):List PV:=
 [PV.int IntKind.i64 x.rx.kind,PV.str x.rx.char,PV.bool x.rx.not,PV.sl x.rx.rows.nil (zC 2 x.rx.rows.l) (List.map qT.enc x.rx.rows.l),PV.int IntKind.i64 x.rx.min,PV.int IntKind.i64 x.rx.max,PV.bool x.rx.lazy,PV.sl x.rx.qy.nil (zC 8 x.rx.qy.l) (List.map qE.enc x.rx.qy.l),PV.sl x.uz.nil (zC 5 x.uz.l) (List.map zl.enc x.uz.l),PV.bool x.fold,PV.bool x.all]
theorem zf.qN(x:zf):x.enc=[PV.int IntKind.i64 x.rx.kind,PV.str x.rx.char,PV.bool x.rx.not,PV.sl x.rx.rows.nil (zC 2 x.rx.rows.l) (List.map qT.enc x.rx.rows.l),PV.int IntKind.i64 x.rx.min,PV.int IntKind.i64 x.rx.max,PV.bool x.rx.lazy,PV.sl x.rx.qy.nil (zC 8 x.rx.qy.l) (List.map qE.enc x.rx.qy.l),PV.sl x.uz.nil (zC 5 x.uz.l) (List.map zl.enc x.uz.l),PV.bool x.fold,PV.bool x.all]:=rfl
def zf.ok(x:zf):Prop:=qE.ok x.rx/\(bq zl.ok) x.uz/\ga x.fold/\ga x.all/\True
structure qu where
 span:ql
 n:Int
 up:Int
 first:Bool
 qJ:Bool
 qP:zf
 opts:(Sl qa)
 deriving Inhabited
def qu.enc(x:qu):List PV:=
 [PV.int IntKind.i64 x.span.qO,PV.int IntKind.i64 x.span.to,PV.int IntKind.i64 x.n,PV.int IntKind.i64 x.up,PV.bool x.first,PV.bool x.qJ,PV.int IntKind.i64 x.qP.rx.kind,PV.str x.qP.rx.char,PV.bool x.qP.rx.not,PV.sl x.qP.rx.rows.nil (zC 2 x.qP.rx.rows.l) (List.map qT.enc x.qP.rx.rows.l),PV.int IntKind.i64 x.qP.rx.min,PV.int IntKind.i64 x.qP.rx.max,PV.bool x.qP.rx.lazy,PV.sl x.qP.rx.qy.nil (zC 8 x.qP.rx.qy.l) (List.map qE.enc x.qP.rx.qy.l),PV.sl x.qP.uz.nil (zC 5 x.qP.uz.l) (List.map zl.enc x.qP.uz.l),PV.bool x.qP.fold,PV.bool x.qP.all,PV.sl x.opts.nil (zC 1 x.opts.l) (List.map dF x.opts.l)]
theorem qu.qN(x:qu):x.enc=[PV.int IntKind.i64 x.span.qO,PV.int IntKind.i64 x.span.to,PV.int IntKind.i64 x.n,PV.int IntKind.i64 x.up,PV.bool x.first,PV.bool x.qJ,PV.int IntKind.i64 x.qP.rx.kind,PV.str x.qP.rx.char,PV.bool x.qP.rx.not,PV.sl x.qP.rx.rows.nil (zC 2 x.qP.rx.rows.l) (List.map qT.enc x.qP.rx.rows.l),PV.int IntKind.i64 x.qP.rx.min,PV.int IntKind.i64 x.qP.rx.max,PV.bool x.qP.rx.lazy,PV.sl x.qP.rx.qy.nil (zC 8 x.qP.rx.qy.l) (List.map qE.enc x.qP.rx.qy.l),PV.sl x.qP.uz.nil (zC 5 x.qP.uz.l) (List.map zl.enc x.qP.uz.l),PV.bool x.qP.fold,PV.bool x.qP.all,PV.sl x.opts.nil (zC 1 x.opts.l) (List.map dF x.opts.l)]:=rfl
def qu.ok(x:qu):Prop:=ql.ok x.span/\fS x.n/\fS x.up/\ga x.first/\ga x.qJ/\zf.ok x.qP/\(bq bK) x.opts/\True
structure qw where
 span:ql
 stops:(Sl qu)
 deriving Inhabited
def qw.enc(x:qw):List PV:=
 [PV.int IntKind.i64 x.span.qO,PV.int IntKind.i64 x.span.to,PV.sl x.stops.nil (zC 18 x.stops.l) (List.map qu.enc x.stops.l)]
theorem qw.qN(x:qw):x.enc=[PV.int IntKind.i64 x.span.qO,PV.int IntKind.i64 x.span.to,PV.sl x.stops.nil (zC 18 x.stops.l) (List.map qu.enc x.stops.l)]:=rfl
def qw.ok(x:qw):Prop:=ql.ok x.span/\(bq qu.ok) x.stops/\True
structure qc where
 cur:Int
 insts:(Sl qw)
 deriving Inhabited
def qc.enc(x:qc):List PV:=
 [PV.int IntKind.i64 x.cur,PV.sl x.insts.nil (zC 3 x.insts.l) (List.map qw.enc x.insts.l)]
theorem qc.qN(x:qc):x.enc=[PV.int IntKind.i64 x.cur,PV.sl x.insts.nil (zC 3 x.insts.l) (List.map qw.enc x.insts.l)]:=rfl
def qc.ok(x:qc):Prop:=fS x.cur/\(bq qw.ok) x.insts/\True
structure qr where
 text:qa
 xF:(Sl qx)
 qj:(Sl qc)
 deriving Inhabited
def qr.enc(x:qr):List PV:=
 [PV.str x.text,PV.sl x.xF.nil (zC 2 x.xF.l) (List.map qx.enc x.xF.l),PV.sl x.qj.nil (zC 2 x.qj.l) (List.map qc.enc x.qj.l)]
theorem qr.qN(x:qr):x.enc=[PV.str x.text,PV.sl x.xF.nil (zC 2 x.xF.l) (List.map qx.enc x.xF.l),PV.sl x.qj.nil (zC 2 x.qj.l) (List.map qc.enc x.qj.l)]:=rfl
def qr.ok(x:qr):Prop:=bK x.text/\(bq qx.ok) x.xF/\(bq qc.ok) x.qj/\True
structure qo where
 span:ql
 text:qa
 deriving Inhabited,DecidableEq
def qo.enc(x:qo):List PV:=
 [PV.int IntKind.i64 x.span.qO,PV.int IntKind.i64 x.span.to,PV.str x.text]
theorem qo.qN(x:qo):x.enc=[PV.int IntKind.i64 x.span.qO,PV.int IntKind.i64 x.span.to,PV.str x.text]:=rfl
def qo.ok(x:qo):Prop:=ql.ok x.span/\bK x.text/\True
structure gy where
 kind:Int
 name:qa
 text:qa
 n:Int
 extend:Bool
 edits:(Sl qo)
 xF:(Sl qx)
 deriving Inhabited,DecidableEq
def gy.enc(x:gy):List PV:=
 [PV.int IntKind.i64 x.kind,PV.str x.name,PV.str x.text,PV.int IntKind.i64 x.n,PV.bool x.extend,PV.sl x.edits.nil (zC 3 x.edits.l) (List.map qo.enc x.edits.l),PV.sl x.xF.nil (zC 2 x.xF.l) (List.map qx.enc x.xF.l)]
theorem gy.qN(x:gy):x.enc=[PV.int IntKind.i64 x.kind,PV.str x.name,PV.str x.text,PV.int IntKind.i64 x.n,PV.bool x.extend,PV.sl x.edits.nil (zC 3 x.edits.l) (List.map qo.enc x.edits.l),PV.sl x.xF.nil (zC 2 x.xF.l) (List.map qx.enc x.xF.l)]:=rfl
def gy.ok(x:gy):Prop:=fS x.kind/\bK x.name/\bK x.text/\fS x.n/\ga x.extend/\(bq qo.ok) x.edits/\(bq qx.ok) x.xF/\True
structure qt where
 name:qa
 value:qa
 deriving Inhabited,DecidableEq
def qt.enc(x:qt):List PV:=
 [PV.str x.name,PV.str x.value]
theorem qt.qN(x:qt):x.enc=[PV.str x.name,PV.str x.value]:=rfl
def qt.ok(x:qt):Prop:=bK x.name/\bK x.value/\True
structure zn where
 st:qr
 env:(Sl qt)
 behind:(Sl qr)
 ahead:(Sl qr)
 deriving Inhabited
def zn.enc(x:zn):List PV:=
 [PV.str x.st.text,PV.sl x.st.xF.nil (zC 2 x.st.xF.l) (List.map qx.enc x.st.xF.l),PV.sl x.st.qj.nil (zC 2 x.st.qj.l) (List.map qc.enc x.st.qj.l),PV.sl x.env.nil (zC 2 x.env.l) (List.map qt.enc x.env.l),PV.sl x.behind.nil (zC 3 x.behind.l) (List.map qr.enc x.behind.l),PV.sl x.ahead.nil (zC 3 x.ahead.l) (List.map qr.enc x.ahead.l)]
theorem zn.qN(x:zn):x.enc=[PV.str x.st.text,PV.sl x.st.xF.nil (zC 2 x.st.xF.l) (List.map qx.enc x.st.xF.l),PV.sl x.st.qj.nil (zC 2 x.st.qj.l) (List.map qc.enc x.st.qj.l),PV.sl x.env.nil (zC 2 x.env.l) (List.map qt.enc x.env.l),PV.sl x.behind.nil (zC 3 x.behind.l) (List.map qr.enc x.behind.l),PV.sl x.ahead.nil (zC 3 x.ahead.l) (List.map qr.enc x.ahead.l)]:=rfl
def zn.ok(x:zn):Prop:=qr.ok x.st/\(bq qt.ok) x.env/\(bq qr.ok) x.behind/\(bq qr.ok) x.ahead/\True
structure xd where
 id:Int
 held:Bool
 deriving Inhabited,DecidableEq
def xd.enc(x:xd):List PV:=
 [PV.int IntKind.i64 x.id,PV.bool x.held]
theorem xd.qN(x:xd):x.enc=[PV.int IntKind.i64 x.id,PV.bool x.held]:=rfl
def xd.ok(x:xd):Prop:=fS x.id/\ga x.held/\True
structure xc where
 sY:qc
 marks:(Sl (Sl xd))
 deriving Inhabited
def xc.enc(x:xc):List PV:=
 [PV.int IntKind.i64 x.sY.cur,PV.sl x.sY.insts.nil (zC 3 x.sY.insts.l) (List.map qw.enc x.sY.insts.l),PV.sl x.marks.nil (zC 1 x.marks.l) (List.map (ng 2 xd.enc) x.marks.l)]
theorem xc.qN(x:xc):x.enc=[PV.int IntKind.i64 x.sY.cur,PV.sl x.sY.insts.nil (zC 3 x.sY.insts.l) (List.map qw.enc x.sY.insts.l),PV.sl x.marks.nil (zC 1 x.marks.l) (List.map (ng 2 xd.enc) x.marks.l)]:=rfl
def xc.ok(x:xc):Prop:=qc.ok x.sY/\(bq (bq xd.ok)) x.marks/\True
structure jt where
 text:qa
 xF:(Sl qx)
 qj:(Sl xc)
 deriving Inhabited
def jt.enc(x:jt):List PV:=
 [PV.str x.text,PV.sl x.xF.nil (zC 2 x.xF.l) (List.map qx.enc x.xF.l),PV.sl x.qj.nil (zC 3 x.qj.l) (List.map xc.enc x.qj.l)]
theorem jt.qN(x:jt):x.enc=[PV.str x.text,PV.sl x.xF.nil (zC 2 x.xF.l) (List.map qx.enc x.xF.l),PV.sl x.qj.nil (zC 3 x.qj.l) (List.map xc.enc x.qj.l)]:=rfl
def jt.ok(x:jt):Prop:=bK x.text/\(bq qx.ok) x.xF/\(bq xc.ok) x.qj/\True
structure zz where
 st:qr
 fl:(Sl (Sl (Sl Int)))
 deriving Inhabited
def zz.enc(x:zz):List PV:=
 [PV.str x.st.text,PV.sl x.st.xF.nil (zC 2 x.st.xF.l) (List.map qx.enc x.st.xF.l),PV.sl x.st.qj.nil (zC 2 x.st.qj.l) (List.map qc.enc x.st.qj.l),PV.sl x.fl.nil (zC 1 x.fl.l) (List.map (ng 1 (ng 1 zX)) x.fl.l)]
theorem zz.qN(x:zz):x.enc=[PV.str x.st.text,PV.sl x.st.xF.nil (zC 2 x.st.xF.l) (List.map qx.enc x.st.xF.l),PV.sl x.st.qj.nil (zC 2 x.st.qj.l) (List.map qc.enc x.st.qj.l),PV.sl x.fl.nil (zC 1 x.fl.l) (List.map (ng 1 (ng 1 zX)) x.fl.l)]:=rfl
def zz.ok(x:zz):Prop:=qr.ok x.st/\(bq (bq (bq fS))) x.fl/\True
structure qA where
 kind:Int
 text:qa
 n:Int
 has:Bool
 qJ:Bool
 qP:zf
 opts:(Sl qa)
 qy:(Sl qA)
 deriving Inhabited
mutual
def qA.enc:qA->List PV
 |⟨x0,x1,x2,x3,x4,x5,x6,x7⟩=>[PV.int IntKind.i64 x0,PV.str x1,PV.int IntKind.i64 x2,PV.bool x3,PV.bool x4,PV.int IntKind.i64 x5.rx.kind,PV.str x5.rx.char,PV.bool x5.rx.not,PV.sl x5.rx.rows.nil (zC 2 x5.rx.rows.l) (List.map qT.enc x5.rx.rows.l),PV.int IntKind.i64 x5.rx.min,PV.int IntKind.i64 x5.rx.max,PV.bool x5.rx.lazy,PV.sl x5.rx.qy.nil (zC 8 x5.rx.qy.l) (List.map qE.enc x5.rx.qy.l),PV.sl x5.uz.nil (zC 5 x5.uz.l) (List.map zl.enc x5.uz.l),PV.bool x5.fold,PV.bool x5.all,PV.sl x6.nil (zC 1 x6.l) (List.map dF x6.l),qA.Jp x7]
def qA.Jp:Sl qA->PV
 |⟨b,l⟩=> .sl b (zC 18 l) (qA.Q8 l)
def qA.Q8:List qA->List (List PV)
 |[]=>[]
 |x::r=>x.enc::qA.Q8 r
end
theorem qA.rO: ∀l:List qA,qA.Q8 l=l.map qA.enc
 |[]=>rfl
 |x::r=>by simp[qA.Q8,qA.rO r]
theorem qA.Q9(s:Sl qA):qA.Jp s= .sl s.nil (zC 18 s.l) (s.l.map qA.enc):=by cases s;simp[qA.Jp,qA.rO]
theorem qA.qN(x:qA):x.enc=[PV.int IntKind.i64 x.kind,PV.str x.text,PV.int IntKind.i64 x.n,PV.bool x.has,PV.bool x.qJ,PV.int IntKind.i64 x.qP.rx.kind,PV.str x.qP.rx.char,PV.bool x.qP.rx.not,PV.sl x.qP.rx.rows.nil (zC 2 x.qP.rx.rows.l) (List.map qT.enc x.qP.rx.rows.l),PV.int IntKind.i64 x.qP.rx.min,PV.int IntKind.i64 x.qP.rx.max,PV.bool x.qP.rx.lazy,PV.sl x.qP.rx.qy.nil (zC 8 x.qP.rx.qy.l) (List.map qE.enc x.qP.rx.qy.l),PV.sl x.qP.uz.nil (zC 5 x.qP.uz.l) (List.map zl.enc x.qP.uz.l),PV.bool x.qP.fold,PV.bool x.qP.all,PV.sl x.opts.nil (zC 1 x.opts.l) (List.map dF x.opts.l),PV.sl x.qy.nil (zC 18 x.qy.l) (List.map qA.enc x.qy.l)]:=by cases x;simp[qA.enc,qA.Q9]
mutual
def qA.ok:qA->Prop
 |⟨x0,x1,x2,x3,x4,x5,x6,x7⟩=>fS x0/\bK x1/\fS x2/\ga x3/\ga x4/\zf.ok x5/\(bq bK) x6/\qA.okS x7/\True
def qA.okS:Sl qA->Prop
 |⟨b,l⟩=>(l.length<=maxLen/\(b=true->l=[]))/\qA.okL l
def qA.okL:List qA->Prop
 |[]=>True
 |x::r=>x.ok/\qA.okL r
end
structure zu where
 s:qa
 what:(Sl qA)
 NK:(Sl Int)
 deriving Inhabited
def zu.enc(x:zu):List PV:=
 [PV.str x.s,PV.sl x.what.nil (zC 18 x.what.l) (List.map qA.enc x.what.l),PV.sl x.NK.nil (zC 1 x.NK.l) (List.map zX x.NK.l)]
theorem zu.qN(x:zu):x.enc=[PV.str x.s,PV.sl x.what.nil (zC 18 x.what.l) (List.map qA.enc x.what.l),PV.sl x.NK.nil (zC 1 x.NK.l) (List.map zX x.NK.l)]:=rfl
def zu.ok(x:zu):Prop:=bK x.s/\(bq qA.ok) x.what/\(bq fS) x.NK/\True
structure jY where
 e:qo
 NJ:(Sl (Sl Int))
 inst:Int
 z6:Int
 deriving Inhabited,DecidableEq
def jY.enc(x:jY):List PV:=
 [PV.int IntKind.i64 x.e.span.qO,PV.int IntKind.i64 x.e.span.to,PV.str x.e.text,PV.sl x.NJ.nil (zC 1 x.NJ.l) (List.map (ng 1 zX) x.NJ.l),PV.int IntKind.i64 x.inst,PV.int IntKind.i64 x.z6]
theorem jY.qN(x:jY):x.enc=[PV.int IntKind.i64 x.e.span.qO,PV.int IntKind.i64 x.e.span.to,PV.str x.e.text,PV.sl x.NJ.nil (zC 1 x.NJ.l) (List.map (ng 1 zX) x.NJ.l),PV.int IntKind.i64 x.inst,PV.int IntKind.i64 x.z6]:=rfl
def jY.ok(x:jY):Prop:=qo.ok x.e/\(bq (bq fS)) x.NJ/\fS x.inst/\fS x.z6/\True
structure ju where
 span:ql
 parts:(Sl ql)
 deriving Inhabited,DecidableEq
def ju.enc(x:ju):List PV:=
 [PV.int IntKind.i64 x.span.qO,PV.int IntKind.i64 x.span.to,PV.sl x.parts.nil (zC 2 x.parts.l) (List.map ql.enc x.parts.l)]
theorem ju.qN(x:ju):x.enc=[PV.int IntKind.i64 x.span.qO,PV.int IntKind.i64 x.span.to,PV.sl x.parts.nil (zC 2 x.parts.l) (List.map ql.enc x.parts.l)]:=rfl
def ju.ok(x:ju):Prop:=ql.ok x.span/\(bq ql.ok) x.parts/\True
structure qU where
 bytes:Int
 breaks:Int
 dA:Int
 sP:Int
 deriving Inhabited,DecidableEq
def qU.enc(x:qU):List PV:=
 [PV.int IntKind.i64 x.bytes,PV.int IntKind.i64 x.breaks,PV.int IntKind.i64 x.dA,PV.int IntKind.i64 x.sP]
theorem qU.qN(x:qU):x.enc=[PV.int IntKind.i64 x.bytes,PV.int IntKind.i64 x.breaks,PV.int IntKind.i64 x.dA,PV.int IntKind.i64 x.sP]:=rfl
def qU.ok(x:qU):Prop:=fS x.bytes/\fS x.breaks/\fS x.dA/\fS x.sP/\True
structure qb where
 kind:Int
 text:qa
 n:Int
 xI:Bool
 first:Bool
 qJ:Bool
 qP:zf
 opts:(Sl qa)
 up:Int
 end_:Int
 deriving Inhabited
def qb.enc(x:qb):List PV:=
 [PV.int IntKind.i64 x.kind,PV.str x.text,PV.int IntKind.i64 x.n,PV.bool x.xI,PV.bool x.first,PV.bool x.qJ,PV.int IntKind.i64 x.qP.rx.kind,PV.str x.qP.rx.char,PV.bool x.qP.rx.not,PV.sl x.qP.rx.rows.nil (zC 2 x.qP.rx.rows.l) (List.map qT.enc x.qP.rx.rows.l),PV.int IntKind.i64 x.qP.rx.min,PV.int IntKind.i64 x.qP.rx.max,PV.bool x.qP.rx.lazy,PV.sl x.qP.rx.qy.nil (zC 8 x.qP.rx.qy.l) (List.map qE.enc x.qP.rx.qy.l),PV.sl x.qP.uz.nil (zC 5 x.qP.uz.l) (List.map zl.enc x.qP.uz.l),PV.bool x.qP.fold,PV.bool x.qP.all,PV.sl x.opts.nil (zC 1 x.opts.l) (List.map dF x.opts.l),PV.int IntKind.i64 x.up,PV.int IntKind.i64 x.end_]
theorem qb.qN(x:qb):x.enc=[PV.int IntKind.i64 x.kind,PV.str x.text,PV.int IntKind.i64 x.n,PV.bool x.xI,PV.bool x.first,PV.bool x.qJ,PV.int IntKind.i64 x.qP.rx.kind,PV.str x.qP.rx.char,PV.bool x.qP.rx.not,PV.sl x.qP.rx.rows.nil (zC 2 x.qP.rx.rows.l) (List.map qT.enc x.qP.rx.rows.l),PV.int IntKind.i64 x.qP.rx.min,PV.int IntKind.i64 x.qP.rx.max,PV.bool x.qP.rx.lazy,PV.sl x.qP.rx.qy.nil (zC 8 x.qP.rx.qy.l) (List.map qE.enc x.qP.rx.qy.l),PV.sl x.qP.uz.nil (zC 5 x.qP.uz.l) (List.map zl.enc x.qP.uz.l),PV.bool x.qP.fold,PV.bool x.qP.all,PV.sl x.opts.nil (zC 1 x.opts.l) (List.map dF x.opts.l),PV.int IntKind.i64 x.up,PV.int IntKind.i64 x.end_]:=rfl
def qb.ok(x:qb):Prop:=fS x.kind/\bK x.text/\fS x.n/\ga x.xI/\ga x.first/\ga x.qJ/\zf.ok x.qP/\(bq bK) x.opts/\fS x.up/\fS x.end_/\True
structure zH where
 env:(Sl qt)
 lead:qa
 unit:qa
 parts:(Sl qb)
 defs:(Sl Int)
 names:(Sl qa)
 deriving Inhabited
def zH.enc(x:zH):List PV:=
 [PV.sl x.env.nil (zC 2 x.env.l) (List.map qt.enc x.env.l),PV.str x.lead,PV.str x.unit,PV.sl x.parts.nil (zC 20 x.parts.l) (List.map qb.enc x.parts.l),PV.sl x.defs.nil (zC 1 x.defs.l) (List.map zX x.defs.l),PV.sl x.names.nil (zC 1 x.names.l) (List.map dF x.names.l)]
theorem zH.qN(x:zH):x.enc=[PV.sl x.env.nil (zC 2 x.env.l) (List.map qt.enc x.env.l),PV.str x.lead,PV.str x.unit,PV.sl x.parts.nil (zC 20 x.parts.l) (List.map qb.enc x.parts.l),PV.sl x.defs.nil (zC 1 x.defs.l) (List.map zX x.defs.l),PV.sl x.names.nil (zC 1 x.names.l) (List.map dF x.names.l)]:=rfl
def zH.ok(x:zH):Prop:=(bq qt.ok) x.env/\bK x.lead/\bK x.unit/\(bq qb.ok) x.parts/\(bq fS) x.defs/\(bq bK) x.names/\True
structure zG where
 ns:(Sl Int)
 ts:(Sl qa)
 deriving Inhabited,DecidableEq
def zG.enc(x:zG):List PV:=
 [PV.sl x.ns.nil (zC 1 x.ns.l) (List.map zX x.ns.l),PV.sl x.ts.nil (zC 1 x.ts.l) (List.map dF x.ts.l)]
theorem zG.qN(x:zG):x.enc=[PV.sl x.ns.nil (zC 1 x.ns.l) (List.map zX x.ns.l),PV.sl x.ts.nil (zC 1 x.ts.l) (List.map dF x.ts.l)]:=rfl
def zG.ok(x:zG):Prop:=(bq fS) x.ns/\(bq bK) x.ts/\True
structure qM where
 rx:qE
 qy:(Sl qM)
 lo:Int
 hi:Int
 deriving Inhabited
mutual
def qM.enc:qM->List PV
 |⟨x0,x1,x2,x3⟩=>[PV.int IntKind.i64 x0.kind,PV.str x0.char,PV.bool x0.not,PV.sl x0.rows.nil (zC 2 x0.rows.l) (List.map qT.enc x0.rows.l),PV.int IntKind.i64 x0.min,PV.int IntKind.i64 x0.max,PV.bool x0.lazy,PV.sl x0.qy.nil (zC 8 x0.qy.l) (List.map qE.enc x0.qy.l),qM.Jp x1,PV.int IntKind.i64 x2,PV.int IntKind.i64 x3]
def qM.Jp:Sl qM->PV
 |⟨b,l⟩=> .sl b (zC 11 l) (qM.Q8 l)
def qM.Q8:List qM->List (List PV)
 |[]=>[]
 |x::r=>x.enc::qM.Q8 r
end
theorem qM.rO: ∀l:List qM,qM.Q8 l=l.map qM.enc
 |[]=>rfl
 |x::r=>by simp[qM.Q8,qM.rO r]
theorem qM.Q9(s:Sl qM):qM.Jp s= .sl s.nil (zC 11 s.l) (s.l.map qM.enc):=by cases s;simp[qM.Jp,qM.rO]
theorem qM.qN(x:qM):x.enc=[PV.int IntKind.i64 x.rx.kind,PV.str x.rx.char,PV.bool x.rx.not,PV.sl x.rx.rows.nil (zC 2 x.rx.rows.l) (List.map qT.enc x.rx.rows.l),PV.int IntKind.i64 x.rx.min,PV.int IntKind.i64 x.rx.max,PV.bool x.rx.lazy,PV.sl x.rx.qy.nil (zC 8 x.rx.qy.l) (List.map qE.enc x.rx.qy.l),PV.sl x.qy.nil (zC 11 x.qy.l) (List.map qM.enc x.qy.l),PV.int IntKind.i64 x.lo,PV.int IntKind.i64 x.hi]:=by cases x;simp[qM.enc,qM.Q9]
mutual
def qM.ok:qM->Prop
 |⟨x0,x1,x2,x3⟩=>qE.ok x0/\qM.okS x1/\fS x2/\fS x3/\True
def qM.okS:Sl qM->Prop
 |⟨b,l⟩=>(l.length<=maxLen/\(b=true->l=[]))/\qM.okL l
def qM.okL:List qM->Prop
 |[]=>True
 |x::r=>x.ok/\qM.okL r
end
structure kP where
 top:qM
 fold:Bool
 chars:(Sl qa)
 places:(Sl Int)
 parts:(Sl ql)
 fuel:Int
 out:Bool
 deriving Inhabited
def kP.enc(x:kP):List PV:=
 [PV.int IntKind.i64 x.top.rx.kind,PV.str x.top.rx.char,PV.bool x.top.rx.not,PV.sl x.top.rx.rows.nil (zC 2 x.top.rx.rows.l) (List.map qT.enc x.top.rx.rows.l),PV.int IntKind.i64 x.top.rx.min,PV.int IntKind.i64 x.top.rx.max,PV.bool x.top.rx.lazy,PV.sl x.top.rx.qy.nil (zC 8 x.top.rx.qy.l) (List.map qE.enc x.top.rx.qy.l),PV.sl x.top.qy.nil (zC 11 x.top.qy.l) (List.map qM.enc x.top.qy.l),PV.int IntKind.i64 x.top.lo,PV.int IntKind.i64 x.top.hi,PV.bool x.fold,PV.sl x.chars.nil (zC 1 x.chars.l) (List.map dF x.chars.l),PV.sl x.places.nil (zC 1 x.places.l) (List.map zX x.places.l),PV.sl x.parts.nil (zC 2 x.parts.l) (List.map ql.enc x.parts.l),PV.int IntKind.i64 x.fuel,PV.bool x.out]
theorem kP.qN(x:kP):x.enc=[PV.int IntKind.i64 x.top.rx.kind,PV.str x.top.rx.char,PV.bool x.top.rx.not,PV.sl x.top.rx.rows.nil (zC 2 x.top.rx.rows.l) (List.map qT.enc x.top.rx.rows.l),PV.int IntKind.i64 x.top.rx.min,PV.int IntKind.i64 x.top.rx.max,PV.bool x.top.rx.lazy,PV.sl x.top.rx.qy.nil (zC 8 x.top.rx.qy.l) (List.map qE.enc x.top.rx.qy.l),PV.sl x.top.qy.nil (zC 11 x.top.qy.l) (List.map qM.enc x.top.qy.l),PV.int IntKind.i64 x.top.lo,PV.int IntKind.i64 x.top.hi,PV.bool x.fold,PV.sl x.chars.nil (zC 1 x.chars.l) (List.map dF x.chars.l),PV.sl x.places.nil (zC 1 x.places.l) (List.map zX x.places.l),PV.sl x.parts.nil (zC 2 x.parts.l) (List.map ql.enc x.parts.l),PV.int IntKind.i64 x.fuel,PV.bool x.out]:=rfl
def kP.ok(x:kP):Prop:=qM.ok x.top/\ga x.fold/\(bq bK) x.chars/\(bq fS) x.places/\(bq ql.ok) x.parts/\fS x.fuel/\ga x.out/\True
structure qh where
 span:ql
 parts:(Sl ql)
 deriving Inhabited,DecidableEq
def qh.enc(x:qh):List PV:=
 [PV.int IntKind.i64 x.span.qO,PV.int IntKind.i64 x.span.to,PV.sl x.parts.nil (zC 2 x.parts.l) (List.map ql.enc x.parts.l)]
theorem qh.qN(x:qh):x.enc=[PV.int IntKind.i64 x.span.qO,PV.int IntKind.i64 x.span.to,PV.sl x.parts.nil (zC 2 x.parts.l) (List.map ql.enc x.parts.l)]:=rfl
def qh.ok(x:qh):Prop:=ql.ok x.span/\(bq ql.ok) x.parts/\True
structure qd where
 cs:(Sl qa)
 qk:Int
 deriving Inhabited,DecidableEq
def qd.enc(x:qd):List PV:=
 [PV.sl x.cs.nil (zC 1 x.cs.l) (List.map dF x.cs.l),PV.int IntKind.i64 x.qk]
theorem qd.qN(x:qd):x.enc=[PV.sl x.cs.nil (zC 1 x.cs.l) (List.map dF x.cs.l),PV.int IntKind.i64 x.qk]:=rfl
def qd.ok(x:qd):Prop:=(bq bK) x.cs/\fS x.qk/\True
structure qz where
 span:ql
 up:Int
 deriving Inhabited,DecidableEq
def qz.enc(x:qz):List PV:=
 [PV.int IntKind.i64 x.span.qO,PV.int IntKind.i64 x.span.to,PV.int IntKind.i64 x.up]
theorem qz.qN(x:qz):x.enc=[PV.int IntKind.i64 x.span.qO,PV.int IntKind.i64 x.span.to,PV.int IntKind.i64 x.up]:=rfl
def qz.ok(x:qz):Prop:=ql.ok x.span/\fS x.up/\True
structure qf where
 cs:(Sl qa)
 kZ:(Sl Int)
 fold:Bool
 fuel:Int
 out:Bool
 deriving Inhabited,DecidableEq
def qf.enc(x:qf):List PV:=
 [PV.sl x.cs.nil (zC 1 x.cs.l) (List.map dF x.cs.l),PV.sl x.kZ.nil (zC 1 x.kZ.l) (List.map zX x.kZ.l),PV.bool x.fold,PV.int IntKind.i64 x.fuel,PV.bool x.out]
theorem qf.qN(x:qf):x.enc=[PV.sl x.cs.nil (zC 1 x.cs.l) (List.map dF x.cs.l),PV.sl x.kZ.nil (zC 1 x.kZ.l) (List.map zX x.kZ.l),PV.bool x.fold,PV.int IntKind.i64 x.fuel,PV.bool x.out]:=rfl
def qf.ok(x:qf):Prop:=(bq bK) x.cs/\(bq fS) x.kZ/\ga x.fold/\fS x.fuel/\ga x.out/\True
structure qe where
 kind:Int
 x:qE
 g:Int
 many:Int
 qO:Int
 rest:(Option qe)
 deriving Inhabited
mutual
def qe.enc:qe->List PV
 |⟨x0,x1,x2,x3,x4,x5⟩=>[PV.int IntKind.i64 x0,PV.int IntKind.i64 x1.kind,PV.str x1.char,PV.bool x1.not,PV.sl x1.rows.nil (zC 2 x1.rows.l) (List.map qT.enc x1.rows.l),PV.int IntKind.i64 x1.min,PV.int IntKind.i64 x1.max,PV.bool x1.lazy,PV.sl x1.qy.nil (zC 8 x1.qy.l) (List.map qE.enc x1.qy.l),PV.int IntKind.i64 x2,PV.int IntKind.i64 x3,PV.int IntKind.i64 x4,qe.rP x5]
def qe.rP:Option qe->PV
 |none=> .jk
 |some x=> .rp x.enc
end
theorem qe.WI:qe.rP none= .jk:=by simp[qe.rP]
theorem qe.WJ(x:qe):qe.rP (some x)= .rp x.enc:=by simp[qe.rP]
theorem qe.T2(k:Option qe)(H:qn):sD .ptr (.pv (qe.rP k)) H=some k.isNone:=by cases k<;>simp[qe.rP,sD]
theorem qe.HD(k:Option qe):AV.cells (.pv (qe.rP k))=[.pv (qe.rP k)]:=by cases k<;>simp[qe.rP,AV.cells]
theorem qe.qN(x:qe):x.enc=[PV.int IntKind.i64 x.kind,PV.int IntKind.i64 x.x.kind,PV.str x.x.char,PV.bool x.x.not,PV.sl x.x.rows.nil (zC 2 x.x.rows.l) (List.map qT.enc x.x.rows.l),PV.int IntKind.i64 x.x.min,PV.int IntKind.i64 x.x.max,PV.bool x.x.lazy,PV.sl x.x.qy.nil (zC 8 x.x.qy.l) (List.map qE.enc x.x.qy.l),PV.int IntKind.i64 x.g,PV.int IntKind.i64 x.many,PV.int IntKind.i64 x.qO,qe.rP x.rest]:=by cases x;simp[qe.enc]
def qe.ok(_:qe):Prop:=True
def aw6:Option Bool:=some true
theorem Xo{α:Type}{u0 u1 u2 u3 u4 u5 u6:Bool}{p q:Option α}{r:α}{P:Prop}(f:((u0=true/\u1=true/\dH/\dH/\dH/\dH/\dH)\/(u0=false/\dH/\u2=true/\u3=true/\dH/\dH/\dH)\/(u0=false/\dH/\u2=false/\dH/\u4=true/\u5=true/\dH)\/(u0=false/\dH/\u2=false/\dH/\u4=false/\dH/\u6=true)\/(u0=false/\dH/\u2=false/\dH/\u4=true/\u5=false/\u6=true)\/(u0=false/\dH/\u2=true/\u3=false/\u4=true/\u5=true/\dH)\/(u0=false/\dH/\u2=true/\u3=false/\u4=false/\dH/\u6=true)\/(u0=false/\dH/\u2=true/\u3=false/\u4=true/\u5=false/\u6=true)\/(u0=true/\u1=false/\u2=true/\u3=true/\dH/\dH/\dH)\/(u0=true/\u1=false/\u2=false/\dH/\u4=true/\u5=true/\dH)\/(u0=true/\u1=false/\u2=false/\dH/\u4=false/\dH/\u6=true)\/(u0=true/\u1=false/\u2=false/\dH/\u4=true/\u5=false/\u6=true)\/(u0=true/\u1=false/\u2=true/\u3=false/\u4=true/\u5=true/\dH)\/(u0=true/\u1=false/\u2=true/\u3=false/\u4=false/\dH/\u6=true)\/(u0=true/\u1=false/\u2=true/\u3=false/\u4=true/\u5=false/\u6=true))->p=some r->P)(g:((u0=false/\dH/\u2=false/\dH/\u4=false/\dH/\u6=false)\/(u0=false/\dH/\u2=false/\dH/\u4=true/\u5=false/\u6=false)\/(u0=false/\dH/\u2=true/\u3=false/\u4=false/\dH/\u6=false)\/(u0=false/\dH/\u2=true/\u3=false/\u4=true/\u5=false/\u6=false)\/(u0=true/\u1=false/\u2=false/\dH/\u4=false/\dH/\u6=false)\/(u0=true/\u1=false/\u2=false/\dH/\u4=true/\u5=false/\u6=false)\/(u0=true/\u1=false/\u2=true/\u3=false/\u4=false/\dH/\u6=false)\/(u0=true/\u1=false/\u2=true/\u3=false/\u4=true/\u5=false/\u6=false))->q=some r->P)(h:(if ((u0&&u1) || ((u2&&u3) || ((u4&&u5) || u6)))=true then p else q)=some r):P:=by cases u0<;>cases u1<;>cases u2<;>cases u3<;>cases u4<;>cases u5<;>cases u6<;>simp_all [dH]
theorem slot_0(s:St):gr s 0=s.env.get 0:=rfl
theorem slot_1(s:St):gr s 1=s.env.get 1:=rfl
theorem slot_2(s:St):gr s 2=s.env.get 2:=rfl
theorem slot_3(s:St):gr s 3=s.env.get 3:=rfl
theorem slot_4(s:St):gr s 4=s.env.get 4:=rfl
theorem slot_14(s:St):gr s 14=s.env.get 14:=rfl
theorem slot_19(s:St):gr s 19=s.env.get 19:=rfl
theorem slot_20(s:St):gr s 20=s.env.get 20:=rfl
theorem slot_21(s:St):gr s 21=s.env.get 21:=rfl
theorem D8(s:St):gr s 2003=match s.env.get 3 with| .ptr b o=>(match s.heap.get b with|some (.box c)=>(match c[o+1]? with|some v=>v|none=> .undef)|_=> .undef)|_=> .undef:=rfl
theorem D9(s:St):gr s 3000=match s.env.get 0 with| .ptr b o=>(match s.heap.get b with|some (.box c)=>(match c[o+2]? with|some v=>v|none=> .undef)|_=> .undef)|_=> .undef:=rfl
theorem Da(s:St):gr s 4000=match s.env.get 0 with| .ptr b o=>(match s.heap.get b with|some (.box c)=>(match c[o+3]? with|some v=>v|none=> .undef)|_=> .undef)|_=> .undef:=rfl
theorem Db(s:St):gr s 4003=match s.env.get 3 with| .ptr b o=>(match s.heap.get b with|some (.box c)=>(match c[o+3]? with|some v=>v|none=> .undef)|_=> .undef)|_=> .undef:=rfl
theorem Dc(s:St):gr s 5000=match s.env.get 0 with| .ptr b o=>(match s.heap.get b with|some (.box c)=>(match c[o+4]? with|some v=>v|none=> .undef)|_=> .undef)|_=> .undef:=rfl
theorem Dd(s:St):gr s 6000=match s.env.get 0 with| .ptr b o=>(match s.heap.get b with|some (.box c)=>(match c[o+5]? with|some v=>v|none=> .undef)|_=> .undef)|_=> .undef:=rfl
theorem natA(n:Nat):0+n=n:=Nat.zero_add n
def en:=PLift.up (And.intro (And.intro (And.intro (And.intro (And.intro encx.down (And.intro wordx.down @natA)) (And.intro @Int.cast_ofNat_Int (And.intro @List.append_nil.{0} @List.nil_append.{0}))) (And.intro (And.intro @List.cons_append.{0} (And.intro @List.map_append.{0,0} @List.map_cons.{0,0})) (And.intro (And.intro @List.map_nil.{0,0} @List.map_set.{0,0}) (And.intro @List.length_append.{0} @List.length_cons.{0})))) (And.intro (And.intro (And.intro @List.length_nil.{0} (And.intro @List.length_map.{0,0} @ql.qN)) (And.intro @qx.qN (And.intro @qT.qN @qE.qN))) (And.intro (And.intro @zl.qN (And.intro @zf.qN @qu.qN)) (And.intro (And.intro @qw.qN @qc.qN) (And.intro @qr.qN @qo.qN))))) (And.intro (And.intro (And.intro (And.intro @gy.qN (And.intro @qt.qN @zn.qN)) (And.intro @xd.qN (And.intro @xc.qN @jt.qN))) (And.intro (And.intro @zz.qN (And.intro @qA.qN @zu.qN)) (And.intro (And.intro @jY.qN @ju.qN) (And.intro @qU.qN @qb.qN)))) (And.intro (And.intro (And.intro @zH.qN (And.intro @zG.qN @qM.qN)) (And.intro @kP.qN (And.intro @qh.qN @qd.qN))) (And.intro (And.intro @qz.qN (And.intro @qf.qN @qe.T2)) (And.intro (And.intro @qe.HD @qe.WI) (And.intro @qe.WJ @qe.qN))))))
end Go.Proofs.YtmllebdamdnhoaaGreat
