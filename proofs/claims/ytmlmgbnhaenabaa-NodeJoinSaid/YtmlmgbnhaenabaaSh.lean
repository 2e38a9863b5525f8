/-
  The functions as plain Lean functions.
-/
import Derived.Test.YtmlmgbnhaenabaaTy
set_option linter.unusedSimpArgs false
set_option linter.unusedVariables false
set_option maxRecDepth 100000
namespace Go.Proofs.Ytmlmgbnhaenabaa
open Go Go.Gm
def law0_Rx_L0 : (Int × Int × T.Rx) → Option (((Int × Int) ⊕ (Int)))
  | (n, i, x) =>
    if (decide (i < (x.rows.l.length : Int))) then
      geti x.rows.l i >>= fun x3 =>
      if (decide ((x3.frm.length : Int) ≥ n)) then
        some (.inl (n, ((-1) : Int)))
      else
      if (decide ((x3.to.length : Int) ≥ n)) then
        some (.inl (n, ((-1) : Int)))
      else
        law0_Rx_L0 ((IntKind.i64.wrap ((IntKind.i64.wrap ((IntKind.i64.wrap (n - (1 : Int))) - (x3.frm.length : Int))) - (x3.to.length : Int))), (IntKind.i64.wrap (i + (1 : Int))), x)
    else
      some (.inr n)
  partial_fixpoint
mutual
def law0_Rx : (T.Rx × Int) → Option ((Int))
  | (x, n) =>
    if ((decide ((x.char.length : Int) ≥ n)) || ((decide ((x.rows.l.length : Int) ≥ n)) || (decide ((x.kids.l.length : Int) ≥ n)))) then
      some ((-1) : Int)
    else
      law0_Rx_L0 ((IntKind.i64.wrap ((IntKind.i64.wrap (n - (1 : Int))) - (x.char.length : Int))), (0 : Int), x) >>= fun v5 =>
      match v5 with
      | .inl y6 =>
        some y6.2
      | .inr y7 =>
        law0_Rx_L2 (y7, (0 : Int), x) >>= fun v9 =>
        some v9
  partial_fixpoint
def law0_Rx_L2 : (Int × Int × T.Rx) → Option ((Int))
  | (n, i, x) =>
    if ((decide (i < (x.kids.l.length : Int))) && (decide (n ≥ (0 : Int)))) then
      geti x.kids.l i >>= fun x4 =>
      law0_Rx (x4, n) >>= fun v6 =>
      law0_Rx_L2 (v6, (IntKind.i64.wrap (i + (1 : Int))), x)
    else
      some n
  partial_fixpoint
end
def law0_FmtsLeft_L0 : ((Sl T.Fmt) × Int × Int) → Option (((Int × Int) ⊕ (Int)))
  | (fs, n, i) =>
    if (decide (i < (fs.l.length : Int))) then
      geti fs.l i >>= fun x3 =>
      if (decide ((x3.thn.length : Int) ≥ n)) then
        some (.inl (n, ((-1) : Int)))
      else
      if (decide ((x3.els.length : Int) ≥ n)) then
        some (.inl (n, ((-1) : Int)))
      else
        law0_FmtsLeft_L0 (fs, (IntKind.i64.wrap ((IntKind.i64.wrap ((IntKind.i64.wrap (n - (1 : Int))) - (x3.thn.length : Int))) - (x3.els.length : Int))), (IntKind.i64.wrap (i + (1 : Int))))
    else
      some (.inr n)
  partial_fixpoint
def law0_FmtsLeft (fs : (Sl T.Fmt)) (n : Int) : Option ((Int)) :=
  law0_FmtsLeft_L0 (fs, n, (0 : Int)) >>= fun v2 =>
  match v2 with
  | .inl y3 =>
    some y3.2
  | .inr y4 =>
    some y4
def law0_Form (f : T.Form) (n : Int) : Option ((Int)) :=
  law0_Rx (f.rx, n) >>= fun v2 =>
  if (decide (v2 < (0 : Int))) then
    some v2
  else
    law0_FmtsLeft f.fmts v2 >>= fun v5 =>
    some v5
def law0_Snips_L2 : ((Sl T.Snip) × Int × Int × Int) → Option (((Int × Int) ⊕ (Int)))
  | (l, n, i, k) =>
    geti l.l i >>= fun x2 =>
    if (decide (k < (x2.opts.l.length : Int))) then
      geti x2.opts.l k >>= fun x5 =>
      if (decide ((x5.length : Int) ≥ n)) then
        some (.inl (n, ((-1) : Int)))
      else
        law0_Snips_L2 (l, (IntKind.i64.wrap ((IntKind.i64.wrap (n - (1 : Int))) - (x5.length : Int))), i, (IntKind.i64.wrap (k + (1 : Int))))
    else
      some (.inr n)
  partial_fixpoint
mutual
def law0_Snips : ((Sl T.Snip) × Int) → Option ((Int))
  | (l, n) =>
    law0_Snips_L0 (l, n, (0 : Int)) >>= fun v2 =>
    match v2 with
    | .inl y3 =>
      some y3.2
    | .inr y4 =>
      some y4
  partial_fixpoint
def law0_Snips_L0 : ((Sl T.Snip) × Int × Int) → Option (((Int × Int) ⊕ (Int)))
  | (l, n, i) =>
    if ((decide (i < (l.l.length : Int))) && (decide (n ≥ (0 : Int)))) then
      geti l.l i >>= fun x4 =>
      if (decide ((x4.text.length : Int) ≥ n)) then
        some (.inl (n, ((-1) : Int)))
      else
      if (decide ((x4.opts.l.length : Int) ≥ n)) then
        some (.inl (n, ((-1) : Int)))
      else
        law0_Form x4.form (IntKind.i64.wrap ((IntKind.i64.wrap (n - (1 : Int))) - (x4.text.length : Int))) >>= fun v8 =>
        law0_Snips_L2 (l, v8, i, (0 : Int)) >>= fun v10 =>
        match v10 with
        | .inl y11 =>
          some (.inl (y11.1, y11.2))
        | .inr y12 =>
          if (decide (y12 ≥ (0 : Int))) then
            law0_Snips (x4.kids, y12) >>= fun v15 =>
            law0_Snips_L0 (l, v15, (IntKind.i64.wrap (i + (1 : Int))))
          else
            law0_Snips_L0 (l, y12, (IntKind.i64.wrap (i + (1 : Int))))
    else
      some (.inr n)
  partial_fixpoint
end
def law20_text (s : Bytes) : Option ((T.Snip)) :=
  some (T.Snip.mk (0 : Int) s (0 : Int) false false (T.Form.mk (T.Rx.mk (0 : Int) ([] : Bytes) false (⟨true, ([] : List T.Row)⟩ : (Sl T.Row)) (0 : Int) (0 : Int) false (⟨true, ([] : List T.Rx)⟩ : (Sl T.Rx))) (⟨true, ([] : List T.Fmt)⟩ : (Sl T.Fmt)) false false) (⟨true, ([] : List Bytes)⟩ : (Sl Bytes)) (⟨true, ([] : List T.Snip)⟩ : (Sl T.Snip)))
def law20_NodeJoin_L0 : ((Sl T.Snip) × Bytes × Int × Int × (List T.Snip)) → Option ((Bytes × Int × (List T.Snip)))
  | (s, all_, others, i, in_) =>
    if (decide (i < (s.l.length : Int))) then
      geti s.l i >>= fun x3 =>
      if (x3.kind == (0 : Int)) then
        law20_text x3.text >>= fun v6 =>
        if roomOK (in_.length + 1) 224 = true then
          if all_.length + x3.text.length ≤ 2 ^ 62 then
            law20_NodeJoin_L0 (s, (all_ ++ x3.text), others, (IntKind.i64.wrap (i + (1 : Int))), (in_ ++ [v6]))
          else none
        else none
      else
        if roomOK (in_.length + 1) 224 = true then
          law20_NodeJoin_L0 (s, all_, (IntKind.i64.wrap (others + (1 : Int))), (IntKind.i64.wrap (i + (1 : Int))), (in_ ++ [x3]))
        else none
    else
      some (all_, others, in_)
  partial_fixpoint
def slices_Clone_LRow (s : (Sl T.Row)) : Option (((Sl T.Row))) :=
  if s.nil then
    some (⟨true, ([] : List T.Row)⟩ : Sl T.Row)
  else
    if roomOK (s.l.length) 32 = true then
      some (⟨false, s.l⟩ : Sl T.Row)
    else none
mutual
def rxtree_Clone (x : T.Rx) : Option ((T.Rx)) :=
    slices_Clone_LRow x.rows >>= fun v2 =>
    rxtree_Clone_L0 (x.kids, (x.kids.l.length : Int), (0 : Int), (T.Rx.mk x.kind x.char x.not v2 x.min x.max x.lazy x.kids), (T.Rx.mk (0 : Int) ([] : Bytes) false (⟨true, ([] : List T.Row)⟩ : (Sl T.Row)) (0 : Int) (0 : Int) false (⟨true, ([] : List T.Rx)⟩ : (Sl T.Rx))), ([] : List T.Rx)) >>= fun v4 =>
    some (T.Rx.mk x.kind x.char x.not v2 x.min x.max x.lazy (⟨v4.isEmpty, v4⟩ : (Sl T.Rx)))
  partial_fixpoint
def rxtree_Clone_L0 : ((Sl T.Rx) × Int × Int × T.Rx × T.Rx × (List T.Rx)) → Option (((List T.Rx)))
  | (t11, t12, t13, x, t2, kids) =>
    if (decide (t13 < t12)) then
      geti t11.l t13 >>= fun x3 =>
      rxtree_Clone x3 >>= fun v5 =>
      if roomOK (kids.length + 1) 104 = true then
        rxtree_Clone_L0 (t11, t12, (IntKind.i64.wrap (t13 + (1 : Int))), x, t2, (kids ++ [v5]))
      else none
    else
      some kids
  partial_fixpoint
end
def slices_Clone_LFmt (s : (Sl T.Fmt)) : Option (((Sl T.Fmt))) :=
  if s.nil then
    some (⟨true, ([] : List T.Fmt)⟩ : Sl T.Fmt)
  else
    if roomOK (s.l.length) 56 = true then
      some (⟨false, s.l⟩ : Sl T.Fmt)
    else none
def xform_Clone (f : T.Form) : Option ((T.Form)) :=
  rxtree_Clone f.rx >>= fun v2 =>
  slices_Clone_LFmt f.fmts >>= fun v4 =>
  some (T.Form.mk v2 v4 f.fold f.all)
def slices_Clone_Lstring (s : (Sl Bytes)) : Option (((Sl Bytes))) :=
  if s.nil then
    some (⟨true, ([] : List Bytes)⟩ : Sl Bytes)
  else
    if roomOK (s.l.length) 16 = true then
      some (⟨false, s.l⟩ : Sl Bytes)
    else none
mutual
def snode_Clone (l : (Sl T.Snip)) : Option (((Sl T.Snip))) :=
    snode_Clone_L0 (l, (l.l.length : Int), (0 : Int), ([] : List T.Snip)) >>= fun v2 =>
    some (⟨v2.isEmpty, v2⟩ : Sl T.Snip)
  partial_fixpoint
def snode_Clone_L0 : ((Sl T.Snip) × Int × Int × (List T.Snip)) → Option (((List T.Snip)))
  | (t6, t7, t8, out) =>
    if (decide (t8 < t7)) then
      geti t6.l t8 >>= fun x3 =>
      xform_Clone x3.form >>= fun v5 =>
      slices_Clone_Lstring x3.opts >>= fun v7 =>
      snode_Clone x3.kids >>= fun v9 =>
      if roomOK (out.length + 1) 224 = true then
        snode_Clone_L0 (t6, t7, (IntKind.i64.wrap (t8 + (1 : Int))), (out ++ [(T.Snip.mk x3.kind x3.text x3.n x3.has x3.turned v5 v7 v9)]))
      else none
    else
      some out
  partial_fixpoint
end
def snode_Join_1 (r_ : (List UInt8)) (r_2 : (List T.Snip)) : Option ((((List T.Snip)) ⊕ (Unit))) :=
  if (decide ((r_.length : Int) > (0 : Int))) then
    if roomOK (r_2.length + 1) 224 = true then
      some (.inl (r_2 ++ [(T.Snip.mk (0 : Int) r_ (0 : Int) false false (T.Form.mk (T.Rx.mk (0 : Int) ([] : Bytes) false (⟨true, []⟩ : (Sl T.Row)) (0 : Int) (0 : Int) false (⟨true, []⟩ : (Sl T.Rx))) (⟨true, []⟩ : (Sl T.Fmt)) false false) (⟨true, []⟩ : (Sl Bytes)) (⟨true, []⟩ : (Sl T.Snip)))]))
    else none
  else
    some (.inr ())
def snode_Join_L0 : ((Sl T.Snip) × Int × Int × (List T.Snip) × (List UInt8)) → Option (((List T.Snip) × (List UInt8)))
  | (t10, t11, t12, r2_, r3_) =>
    if (decide (t12 < t11)) then
      geti t10.l t12 >>= fun x3 =>
      if (x3.kind == (0 : Int)) then
        if (r3_.isEmpty && x3.text.isEmpty) then
          snode_Join_L0 (t10, t11, (IntKind.i64.wrap (t12 + (1 : Int))), r2_, r3_)
        else
          if roomOK (r3_.length + x3.text.length) 1 = true then
            snode_Join_L0 (t10, t11, (IntKind.i64.wrap (t12 + (1 : Int))), r2_, (r3_ ++ x3.text))
          else none
      else
        snode_Join_1 r3_ r2_ >>= fun v8 =>
        match v8 with
        | .inl y9 =>
          if roomOK (y9.length + 1) 224 = true then
            snode_Join_L0 (t10, t11, (IntKind.i64.wrap (t12 + (1 : Int))), (y9 ++ [x3]), ([] : List UInt8))
          else none
        | .inr y11 =>
          if roomOK (r2_.length + 1) 224 = true then
            snode_Join_L0 (t10, t11, (IntKind.i64.wrap (t12 + (1 : Int))), (r2_ ++ [x3]), r3_)
          else none
    else
      some (r2_, r3_)
  partial_fixpoint
def snode_Join (l : (Sl T.Snip)) : Option (((Sl T.Snip))) :=
  snode_Clone l >>= fun v2 =>
  snode_Join_L0 (v2, (v2.l.length : Int), (0 : Int), ([] : List T.Snip), ([] : List UInt8)) >>= fun v4 =>
  snode_Join_1 v4.2 v4.1 >>= fun v6 =>
  match v6 with
  | .inl y7 =>
    some (⟨y7.isEmpty, y7⟩ : Sl T.Snip)
  | .inr y8 =>
    some (⟨v4.1.isEmpty, v4.1⟩ : Sl T.Snip)
def law20_NodeJoin_L2 : ((Sl T.Snip) × Bytes × Int × (Sl T.Snip) × Bytes × Int) → Option (((Bool × Int × Bytes) ⊕ (Int × Bytes)))
  | (in_, all_, others, out, got, i) =>
    if (decide (i < (out.l.length : Int))) then
      geti out.l i >>= fun x3 =>
      if (x3.kind != (0 : Int)) then
        law20_NodeJoin_L2 (in_, all_, (IntKind.i64.wrap (others - (1 : Int))), out, got, (IntKind.i64.wrap (i + (1 : Int))))
      else
        if got.length + x3.text.length ≤ 2 ^ 62 then
          if (x3.text == ([] : Bytes)) then
            some (.inl (false, others, (got ++ x3.text)))
          else
          if (decide (i > (0 : Int))) then
            geti out.l (IntKind.i64.wrap (i - (1 : Int))) >>= fun x9 =>
            if (x9.kind == (0 : Int)) then
              some (.inl (false, others, (got ++ x3.text)))
            else
              law20_NodeJoin_L2 (in_, all_, others, out, (got ++ x3.text), (IntKind.i64.wrap (i + (1 : Int))))
          else
            law20_NodeJoin_L2 (in_, all_, others, out, (got ++ x3.text), (IntKind.i64.wrap (i + (1 : Int))))
        else none
    else
      some (.inr (others, got))
  partial_fixpoint
def ref20_Join_L0 : ((Sl T.Snip) × Int × (List T.Snip)) → Option (((List T.Snip)))
  | (l, i, out) =>
    if (decide (i < (l.l.length : Int))) then
      geti l.l i >>= fun x3 =>
      if (x3.kind == (0 : Int)) then
        if (x3.text == ([] : Bytes)) then
          ref20_Join_L0 (l, (IntKind.i64.wrap (i + (1 : Int))), out)
        else
        if (decide ((out.length : Int) > (0 : Int))) then
          geti out (IntKind.i64.wrap ((out.length : Int) - (1 : Int))) >>= fun x8 =>
          if (x8.kind == (0 : Int)) then
            if x8.text.length + x3.text.length ≤ 2 ^ 62 then
              ref20_Join_L0 (l, (IntKind.i64.wrap (i + (1 : Int))), (out.set ((IntKind.i64.wrap ((out.length : Int) - (1 : Int))).toNat) (T.Snip.mk x8.kind (x8.text ++ x3.text) x8.n x8.has x8.turned x8.form x8.opts x8.kids)))
            else none
          else
            if roomOK (out.length + 1) 224 = true then
              ref20_Join_L0 (l, (IntKind.i64.wrap (i + (1 : Int))), (out ++ [x3]))
            else none
        else
          if roomOK (out.length + 1) 224 = true then
            ref20_Join_L0 (l, (IntKind.i64.wrap (i + (1 : Int))), (out ++ [x3]))
          else none
      else
        if roomOK (out.length + 1) 224 = true then
          ref20_Join_L0 (l, (IntKind.i64.wrap (i + (1 : Int))), (out ++ [x3]))
        else none
    else
      some out
  partial_fixpoint
def ref20_Join (l : (Sl T.Snip)) : Option (((Sl T.Snip))) :=
  ref20_Join_L0 (l, (0 : Int), ([] : List T.Snip)) >>= fun v2 =>
  some (⟨v2.isEmpty, v2⟩ : Sl T.Snip)
def slices_Equal_LRow_L0 : ((Sl T.Row) × (Sl T.Row) × Int × Int) → Option (((Bool) ⊕ (Unit)))
  | (s1, s2, t12, t13) =>
    if (decide (t13 < t12)) then
      geti s1.l t13 >>= fun x3 =>
      geti s2.l t13 >>= fun x5 =>
      if (!(x3.frm == x5.frm && (x3.to == x5.to))) then
        some (.inl false)
      else
        slices_Equal_LRow_L0 (s1, s2, t12, (IntKind.i64.wrap (t13 + (1 : Int))))
    else
      some (.inr ())
  partial_fixpoint
def slices_Equal_LRow (s1 : (Sl T.Row)) (s2 : (Sl T.Row)) : Option ((Bool)) :=
  if ((s1.l.length : Int) != (s2.l.length : Int)) then
    some false
  else
    slices_Equal_LRow_L0 (s1, s2, (s1.l.length : Int), (0 : Int)) >>= fun v3 =>
    match v3 with
    | .inl y4 =>
      some y4
    | .inr y5 =>
      some true
mutual
def rxtree_Same : (T.Rx × T.Rx) → Option ((Bool))
  | (a, b) =>
    if ((a.kind == b.kind) && ((a.char == b.char) && (a.not == b.not))) then
      slices_Equal_LRow a.rows b.rows >>= fun v5 =>
      if (v5 && ((a.min == b.min) && ((a.max == b.max) && (a.lazy == b.lazy)))) then
        slices_EqualFunc_LRx_rxtree_Same (a.kids, b.kids) >>= fun v11 =>
        some v11
      else
        some false
    else
      some false
  partial_fixpoint
def slices_EqualFunc_LRx_rxtree_Same : ((Sl T.Rx) × (Sl T.Rx)) → Option ((Bool))
  | (s1, s2) =>
    if ((s1.l.length : Int) != (s2.l.length : Int)) then
      some false
    else
      slices_EqualFunc_LRx_rxtree_Same_L0 (s2, s1, (s1.l.length : Int), (0 : Int)) >>= fun v3 =>
      match v3 with
      | .inl y4 =>
        some y4
      | .inr y5 =>
        some true
  partial_fixpoint
def slices_EqualFunc_LRx_rxtree_Same_L0 : ((Sl T.Rx) × (Sl T.Rx) × Int × Int) → Option (((Bool) ⊕ (Unit)))
  | (s2, t15, t16, t17) =>
    if (decide (t17 < t16)) then
      geti t15.l t17 >>= fun x3 =>
      geti s2.l t17 >>= fun x5 =>
      rxtree_Same (x3, x5) >>= fun v7 =>
      if (!v7) then
        some (.inl false)
      else
        slices_EqualFunc_LRx_rxtree_Same_L0 (s2, t15, t16, (IntKind.i64.wrap (t17 + (1 : Int))))
    else
      some (.inr ())
  partial_fixpoint
end
def slices_Equal_LFmt_L0 : ((Sl T.Fmt) × (Sl T.Fmt) × Int × Int) → Option (((Bool) ⊕ (Unit)))
  | (s1, s2, t12, t13) =>
    if (decide (t13 < t12)) then
      geti s1.l t13 >>= fun x3 =>
      geti s2.l t13 >>= fun x5 =>
      if (!(x3.kind == x5.kind && (x3.n == x5.n && (x3.cas == x5.cas && (x3.thn == x5.thn && (x3.els == x5.els)))))) then
        some (.inl false)
      else
        slices_Equal_LFmt_L0 (s1, s2, t12, (IntKind.i64.wrap (t13 + (1 : Int))))
    else
      some (.inr ())
  partial_fixpoint
def slices_Equal_LFmt (s1 : (Sl T.Fmt)) (s2 : (Sl T.Fmt)) : Option ((Bool)) :=
  if ((s1.l.length : Int) != (s2.l.length : Int)) then
    some false
  else
    slices_Equal_LFmt_L0 (s1, s2, (s1.l.length : Int), (0 : Int)) >>= fun v3 =>
    match v3 with
    | .inl y4 =>
      some y4
    | .inr y5 =>
      some true
def xform_Same (f : T.Form) (g : T.Form) : Option ((Bool)) :=
  rxtree_Same (f.rx, g.rx) >>= fun v2 =>
  if v2 then
    slices_Equal_LFmt f.fmts g.fmts >>= fun v5 =>
    if (v5 && (f.fold == g.fold)) then
      some (f.all == g.all)
    else
      some false
  else
    some false
def slices_Equal_Lstring_L0 : ((Sl Bytes) × (Sl Bytes) × Int × Int) → Option (((Bool) ⊕ (Unit)))
  | (s1, s2, t12, t13) =>
    if (decide (t13 < t12)) then
      geti s1.l t13 >>= fun x3 =>
      geti s2.l t13 >>= fun x5 =>
      if (!(x3 == x5)) then
        some (.inl false)
      else
        slices_Equal_Lstring_L0 (s1, s2, t12, (IntKind.i64.wrap (t13 + (1 : Int))))
    else
      some (.inr ())
  partial_fixpoint
def slices_Equal_Lstring (s1 : (Sl Bytes)) (s2 : (Sl Bytes)) : Option ((Bool)) :=
  if ((s1.l.length : Int) != (s2.l.length : Int)) then
    some false
  else
    slices_Equal_Lstring_L0 (s1, s2, (s1.l.length : Int), (0 : Int)) >>= fun v3 =>
    match v3 with
    | .inl y4 =>
      some y4
    | .inr y5 =>
      some true
mutual
def snode_Same : ((Sl T.Snip) × (Sl T.Snip)) → Option ((Bool))
  | (a, b) =>
    slices_EqualFunc_LSnip_snode_same (a, b) >>= fun v2 =>
    some v2
  partial_fixpoint
def slices_EqualFunc_LSnip_snode_same : ((Sl T.Snip) × (Sl T.Snip)) → Option ((Bool))
  | (s1, s2) =>
    if ((s1.l.length : Int) != (s2.l.length : Int)) then
      some false
    else
      slices_EqualFunc_LSnip_snode_same_L0 (s2, s1, (s1.l.length : Int), (0 : Int)) >>= fun v3 =>
      match v3 with
      | .inl y4 =>
        some y4
      | .inr y5 =>
        some true
  partial_fixpoint
def slices_EqualFunc_LSnip_snode_same_L0 : ((Sl T.Snip) × (Sl T.Snip) × Int × Int) → Option (((Bool) ⊕ (Unit)))
  | (s2, t15, t16, t17) =>
    if (decide (t17 < t16)) then
      geti t15.l t17 >>= fun x3 =>
      geti s2.l t17 >>= fun x5 =>
      snode_same (x3, x5) >>= fun v7 =>
      if (!v7) then
        some (.inl false)
      else
        slices_EqualFunc_LSnip_snode_same_L0 (s2, t15, t16, (IntKind.i64.wrap (t17 + (1 : Int))))
    else
      some (.inr ())
  partial_fixpoint
def snode_same : (T.Snip × T.Snip) → Option ((Bool))
  | (a, b) =>
    if ((a.kind == b.kind) && ((a.text == b.text) && ((a.n == b.n) && ((a.has == b.has) && (a.turned == b.turned))))) then
      xform_Same a.form b.form >>= fun v7 =>
      if v7 then
        slices_Equal_Lstring a.opts b.opts >>= fun v10 =>
        if v10 then
          snode_Same (a.kids, b.kids) >>= fun v13 =>
          some v13
        else
          some false
      else
        some false
    else
      some false
  partial_fixpoint
end
def law20_NodeJoin (s : (Sl T.Snip)) : Option ((Bool)) :=
  law0_Snips (s, (120 : Int)) >>= fun v2 =>
  if ((decide (v2 < (0 : Int))) || (decide ((s.l.length : Int) > (20 : Int)))) then
    aw9 >>= fun v5 =>
    some v5
  else
    law20_NodeJoin_L0 (s, ([] : Bytes), (0 : Int), (0 : Int), ([] : List T.Snip)) >>= fun v10 =>
    snode_Join (⟨v10.2.2.isEmpty, v10.2.2⟩ : Sl T.Snip) >>= fun v12 =>
    law20_NodeJoin_L2 ((⟨v10.2.2.isEmpty, v10.2.2⟩ : Sl T.Snip), v10.1, v10.2.1, v12, ([] : Bytes), (0 : Int)) >>= fun v14 =>
    match v14 with
    | .inl y15 =>
      some y15.1
    | .inr y16 =>
      if ((y16.2 == v10.1) && (y16.1 == (0 : Int))) then
        ref20_Join (⟨v10.2.2.isEmpty, v10.2.2⟩ : Sl T.Snip) >>= fun v20 =>
        snode_Same (v12, v20) >>= fun v22 =>
        if v22 then
          snode_Join v12 >>= fun v25 =>
          snode_Same (v25, v12) >>= fun v27 =>
          if v27 then
            aw9 >>= fun v30 =>
            some v30
          else
            some false
        else
          some false
      else
        some false
end Go.Proofs.Ytmlmgbnhaenabaa
