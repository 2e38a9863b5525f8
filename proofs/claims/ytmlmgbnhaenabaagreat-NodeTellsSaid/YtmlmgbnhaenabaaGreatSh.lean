/-
  The functions as plain Lean functions.
-/
import Derived.Test.YtmlmgbnhaenabaaGreatTy
set_option linter.unusedSimpArgs false
set_option linter.unusedVariables false
set_option maxRecDepth 100000
namespace Go.Proofs.YtmlmgbnhaenabaaGreat
open Go Go.Gm
def law0_Rx_L0 : (Int × Int × T.Rx) → Option (((Int × Int) ⊕ (Int)))
  | (n, i, x) =>
    if (decide (i < (x.rows.l.length : Int))) then
      geti x.rows.l i >>= fun x3 =>
      if (decide ((x3.frm.length : Int) ≥ n)) then
        some (.inl (n, ((-1) : Int)))
      else
      if (decide ((x3.to.length : Int) ≥ n)) then
        some (.inl (n, ((-1) : Int)))
      else
        law0_Rx_L0 ((IntKind.i64.wrap ((IntKind.i64.wrap ((IntKind.i64.wrap (n - (1 : Int))) - (x3.frm.length : Int))) - (x3.to.length : Int))), (IntKind.i64.wrap (i + (1 : Int))), x)
    else
      some (.inr n)
  partial_fixpoint
mutual
def law0_Rx : (T.Rx × Int) → Option ((Int))
  | (x, n) =>
    if ((decide ((x.char.length : Int) ≥ n)) || ((decide ((x.rows.l.length : Int) ≥ n)) || (decide ((x.kids.l.length : Int) ≥ n)))) then
      some ((-1) : Int)
    else
      law0_Rx_L0 ((IntKind.i64.wrap ((IntKind.i64.wrap (n - (1 : Int))) - (x.char.length : Int))), (0 : Int), x) >>= fun v5 =>
      match v5 with
      | .inl y6 =>
        some y6.2
      | .inr y7 =>
        law0_Rx_L2 (y7, (0 : Int), x) >>= fun v9 =>
        some v9
  partial_fixpoint
def law0_Rx_L2 : (Int × Int × T.Rx) → Option ((Int))
  | (n, i, x) =>
    if ((decide (i < (x.kids.l.length : Int))) && (decide (n ≥ (0 : Int)))) then
      geti x.kids.l i >>= fun x4 =>
      law0_Rx (x4, n) >>= fun v6 =>
      law0_Rx_L2 (v6, (IntKind.i64.wrap (i + (1 : Int))), x)
    else
      some n
  partial_fixpoint
end
def law0_FmtsLeft_L0 : ((Sl T.Fmt) × Int × Int) → Option (((Int × Int) ⊕ (Int)))
  | (fs, n, i) =>
    if (decide (i < (fs.l.length : Int))) then
      geti fs.l i >>= fun x3 =>
      if (decide ((x3.thn.length : Int) ≥ n)) then
        some (.inl (n, ((-1) : Int)))
      else
      if (decide ((x3.els.length : Int) ≥ n)) then
        some (.inl (n, ((-1) : Int)))
      else
        law0_FmtsLeft_L0 (fs, (IntKind.i64.wrap ((IntKind.i64.wrap ((IntKind.i64.wrap (n - (1 : Int))) - (x3.thn.length : Int))) - (x3.els.length : Int))), (IntKind.i64.wrap (i + (1 : Int))))
    else
      some (.inr n)
  partial_fixpoint
def law0_FmtsLeft (fs : (Sl T.Fmt)) (n : Int) : Option ((Int)) :=
  law0_FmtsLeft_L0 (fs, n, (0 : Int)) >>= fun v2 =>
  match v2 with
  | .inl y3 =>
    some y3.2
  | .inr y4 =>
    some y4
def law0_Form (f : T.Form) (n : Int) : Option ((Int)) :=
  law0_Rx (f.rx, n) >>= fun v2 =>
  if (decide (v2 < (0 : Int))) then
    some v2
  else
    law0_FmtsLeft f.fmts v2 >>= fun v5 =>
    some v5
def law0_Snips_L2 : ((Sl T.Snip) × Int × Int × Int) → Option (((Int × Int) ⊕ (Int)))
  | (l, n, i, k) =>
    geti l.l i >>= fun x2 =>
    if (decide (k < (x2.opts.l.length : Int))) then
      geti x2.opts.l k >>= fun x5 =>
      if (decide ((x5.length : Int) ≥ n)) then
        some (.inl (n, ((-1) : Int)))
      else
        law0_Snips_L2 (l, (IntKind.i64.wrap ((IntKind.i64.wrap (n - (1 : Int))) - (x5.length : Int))), i, (IntKind.i64.wrap (k + (1 : Int))))
    else
      some (.inr n)
  partial_fixpoint
mutual
def law0_Snips : ((Sl T.Snip) × Int) → Option ((Int))
  | (l, n) =>
    law0_Snips_L0 (l, n, (0 : Int)) >>= fun v2 =>
    match v2 with
    | .inl y3 =>
      some y3.2
    | .inr y4 =>
      some y4
  partial_fixpoint
def law0_Snips_L0 : ((Sl T.Snip) × Int × Int) → Option (((Int × Int) ⊕ (Int)))
  | (l, n, i) =>
    if ((decide (i < (l.l.length : Int))) && (decide (n ≥ (0 : Int)))) then
      geti l.l i >>= fun x4 =>
      if (decide ((x4.text.length : Int) ≥ n)) then
        some (.inl (n, ((-1) : Int)))
      else
      if (decide ((x4.opts.l.length : Int) ≥ n)) then
        some (.inl (n, ((-1) : Int)))
      else
        law0_Form x4.form (IntKind.i64.wrap ((IntKind.i64.wrap (n - (1 : Int))) - (x4.text.length : Int))) >>= fun v8 =>
        law0_Snips_L2 (l, v8, i, (0 : Int)) >>= fun v10 =>
        match v10 with
        | .inl y11 =>
          some (.inl (y11.1, y11.2))
        | .inr y12 =>
          if (decide (y12 ≥ (0 : Int))) then
            law0_Snips (x4.kids, y12) >>= fun v15 =>
            law0_Snips_L0 (l, v15, (IntKind.i64.wrap (i + (1 : Int))))
          else
            law0_Snips_L0 (l, y12, (IntKind.i64.wrap (i + (1 : Int))))
    else
      some (.inr n)
  partial_fixpoint
end
def slices_Equal_LRow_L0 : ((Sl T.Row) × (Sl T.Row) × Int × Int) → Option (((Bool) ⊕ (Unit)))
  | (s1, s2, t12, t13) =>
    if (decide (t13 < t12)) then
      geti s1.l t13 >>= fun x3 =>
      geti s2.l t13 >>= fun x5 =>
      if (!(x3.frm == x5.frm && (x3.to == x5.to))) then
        some (.inl false)
      else
        slices_Equal_LRow_L0 (s1, s2, t12, (IntKind.i64.wrap (t13 + (1 : Int))))
    else
      some (.inr ())
  partial_fixpoint
def slices_Equal_LRow (s1 : (Sl T.Row)) (s2 : (Sl T.Row)) : Option ((Bool)) :=
  if ((s1.l.length : Int) != (s2.l.length : Int)) then
    some false
  else
    slices_Equal_LRow_L0 (s1, s2, (s1.l.length : Int), (0 : Int)) >>= fun v3 =>
    match v3 with
    | .inl y4 =>
      some y4
    | .inr y5 =>
      some true
mutual
def rxtree_Same : (T.Rx × T.Rx) → Option ((Bool))
  | (a, b) =>
    if ((a.kind == b.kind) && ((a.char == b.char) && (a.not == b.not))) then
      slices_Equal_LRow a.rows b.rows >>= fun v5 =>
      if (v5 && ((a.min == b.min) && ((a.max == b.max) && (a.lazy == b.lazy)))) then
        slices_EqualFunc_LRx_rxtree_Same (a.kids, b.kids) >>= fun v11 =>
        some v11
      else
        some false
    else
      some false
  partial_fixpoint
def slices_EqualFunc_LRx_rxtree_Same : ((Sl T.Rx) × (Sl T.Rx)) → Option ((Bool))
  | (s1, s2) =>
    if ((s1.l.length : Int) != (s2.l.length : Int)) then
      some false
    else
      slices_EqualFunc_LRx_rxtree_Same_L0 (s2, s1, (s1.l.length : Int), (0 : Int)) >>= fun v3 =>
      match v3 with
      | .inl y4 =>
        some y4
      | .inr y5 =>
        some true
  partial_fixpoint
def slices_EqualFunc_LRx_rxtree_Same_L0 : ((Sl T.Rx) × (Sl T.Rx) × Int × Int) → Option (((Bool) ⊕ (Unit)))
  | (s2, t15, t16, t17) =>
    if (decide (t17 < t16)) then
      geti t15.l t17 >>= fun x3 =>
      geti s2.l t17 >>= fun x5 =>
      rxtree_Same (x3, x5) >>= fun v7 =>
      if (!v7) then
        some (.inl false)
      else
        slices_EqualFunc_LRx_rxtree_Same_L0 (s2, t15, t16, (IntKind.i64.wrap (t17 + (1 : Int))))
    else
      some (.inr ())
  partial_fixpoint
end
def slices_Equal_LFmt_L0 : ((Sl T.Fmt) × (Sl T.Fmt) × Int × Int) → Option (((Bool) ⊕ (Unit)))
  | (s1, s2, t12, t13) =>
    if (decide (t13 < t12)) then
      geti s1.l t13 >>= fun x3 =>
      geti s2.l t13 >>= fun x5 =>
      if (!(x3.kind == x5.kind && (x3.n == x5.n && (x3.cas == x5.cas && (x3.thn == x5.thn && (x3.els == x5.els)))))) then
        some (.inl false)
      else
        slices_Equal_LFmt_L0 (s1, s2, t12, (IntKind.i64.wrap (t13 + (1 : Int))))
    else
      some (.inr ())
  partial_fixpoint
def slices_Equal_LFmt (s1 : (Sl T.Fmt)) (s2 : (Sl T.Fmt)) : Option ((Bool)) :=
  if ((s1.l.length : Int) != (s2.l.length : Int)) then
    some false
  else
    slices_Equal_LFmt_L0 (s1, s2, (s1.l.length : Int), (0 : Int)) >>= fun v3 =>
    match v3 with
    | .inl y4 =>
      some y4
    | .inr y5 =>
      some true
def xform_Same (f : T.Form) (g : T.Form) : Option ((Bool)) :=
  rxtree_Same (f.rx, g.rx) >>= fun v2 =>
  if v2 then
    slices_Equal_LFmt f.fmts g.fmts >>= fun v5 =>
    if (v5 && (f.fold == g.fold)) then
      some (f.all == g.all)
    else
      some false
  else
    some false
def snode_nothing (x : T.Snip) : Option ((Bool)) :=
  if ((!x.has) && ((!x.turned) && ((x.kids.l.length : Int) == (0 : Int)))) then
    xform_Same x.form (T.Form.mk (T.Rx.mk (0 : Int) ([] : Bytes) false (⟨true, ([] : List T.Row)⟩ : (Sl T.Row)) (0 : Int) (0 : Int) false (⟨true, ([] : List T.Rx)⟩ : (Sl T.Rx))) (⟨true, ([] : List T.Fmt)⟩ : (Sl T.Fmt)) false false) >>= fun v5 =>
    some v5
  else
    some false
def rxtree_group (kind : Int) : Option ((Bool)) :=
  if (kind == (5 : Int)) then
    some true
  else
    some (kind == (6 : Int))
def rxtree_bare (x : T.Rx) : Option ((Bool)) :=
  if ((x.char == ([] : Bytes)) && ((!x.not) && (((x.rows.l.length : Int) == (0 : Int)) && ((x.min == (0 : Int)) && (x.max == (0 : Int)))))) then
    some (!x.lazy)
  else
    some false
def char_inside (c : UInt8) : Option ((Bool)) :=
  if (decide ((c.toNat : Int) ≥ (128 : Int))) then
    some (decide ((c.toNat : Int) ≤ (191 : Int)))
  else
    some false
def char_end_L0 : (Bytes × Int) → Option ((Int))
  | (s, at_) =>
    if (decide (at_ < (s.length : Int))) then
      geti s at_ >>= fun b3 =>
      char_inside b3 >>= fun v5 =>
      if v5 then
        char_end_L0 (s, (IntKind.i64.wrap (at_ + (1 : Int))))
      else
        some at_
    else
      some at_
  partial_fixpoint
def char_end (s : Bytes) (at_ : Int) : Option ((Int)) :=
  char_end_L0 (s, (IntKind.i64.wrap (at_ + (1 : Int)))) >>= fun v2 =>
  some v2
def char_Proper (c : Bytes) : Option ((Bool)) :=
  if (!(c == ([] : Bytes))) then
    geti c (0 : Int) >>= fun b3 =>
    char_inside b3 >>= fun v5 =>
    if (!v5) then
      char_end c (0 : Int) >>= fun v8 =>
      some (v8 == (c.length : Int))
    else
      some false
  else
    some false
def rxset_row (r_ : T.Row) : Option ((Bool)) :=
  char_Proper r_.frm >>= fun v2 =>
  if v2 then
    char_Proper r_.to >>= fun v5 =>
    if v5 then
      some (bytesLt r_.frm r_.to || r_.frm == r_.to)
    else
      some false
  else
    some false
def rxset_May_L0 : ((Sl T.Row) × (Sl T.Row) × Int × Int) → Option (((Bool) ⊕ (Unit)))
  | (rows, t5, t6, t7) =>
    if (decide (t7 < t6)) then
      geti t5.l t7 >>= fun x3 =>
      rxset_row x3 >>= fun v5 =>
      if (!v5) then
        some (.inl false)
      else
      if (decide (t7 > (0 : Int))) then
        geti rows.l (IntKind.i64.wrap (t7 - (1 : Int))) >>= fun x9 =>
        if (bytesLt x3.frm x9.to || x3.frm == x9.to) then
          some (.inl false)
        else
          rxset_May_L0 (rows, t5, t6, (IntKind.i64.wrap (t7 + (1 : Int))))
      else
        rxset_May_L0 (rows, t5, t6, (IntKind.i64.wrap (t7 + (1 : Int))))
    else
      some (.inr ())
  partial_fixpoint
def rxset_May (rows : (Sl T.Row)) : Option ((Bool)) :=
  rxset_May_L0 (rows, rows, (rows.l.length : Int), (0 : Int)) >>= fun v2 =>
  match v2 with
  | .inl y3 =>
    some y3
  | .inr y4 =>
    some true
def rxtree_repeated (kind : Int) : Option ((Bool)) :=
  if ((kind == (2 : Int)) || ((kind == (3 : Int)) || ((kind == (4 : Int)) || ((kind == (5 : Int)) || (kind == (6 : Int)))))) then
    some true
  else
    some false
def slices_Index_Lint_L0 : ((Sl Int) × Int × Int × Int) → Option (((Int) ⊕ (Unit)))
  | (s, v, t7, t8) =>
    if (decide (t8 < t7)) then
      geti s.l t8 >>= fun x3 =>
      if (v == x3) then
        some (.inl t8)
      else
        slices_Index_Lint_L0 (s, v, t7, (IntKind.i64.wrap (t8 + (1 : Int))))
    else
      some (.inr ())
  partial_fixpoint
def slices_Index_Lint (s : (Sl Int)) (v : Int) : Option ((Int)) :=
  slices_Index_Lint_L0 (s, v, (s.l.length : Int), (0 : Int)) >>= fun v2 =>
  match v2 with
  | .inl y3 =>
    some y3
  | .inr y4 =>
    some ((-1) : Int)
def slices_Contains_Lint (s : (Sl Int)) (v : Int) : Option ((Bool)) :=
  slices_Index_Lint s v >>= fun v2 =>
  some (decide (v2 ≥ (0 : Int)))
def rxtree_some_1 (x : T.Rx) (b : (Sl Int)) : Option ((Bool)) :=
  slices_Contains_Lint b x.kind >>= fun v2 =>
  some v2
def slices_IndexFunc_LRx_rxtree_some_1_L0 : ((Sl T.Rx) × Int × Int × (Sl Int)) → Option (((Int) ⊕ (Unit)))
  | (s, t7, t8, f) =>
    if (decide (t8 < t7)) then
      geti s.l t8 >>= fun x3 =>
      rxtree_some_1 x3 f >>= fun v5 =>
      if v5 then
        some (.inl t8)
      else
        slices_IndexFunc_LRx_rxtree_some_1_L0 (s, t7, (IntKind.i64.wrap (t8 + (1 : Int))), f)
    else
      some (.inr ())
  partial_fixpoint
def slices_IndexFunc_LRx_rxtree_some_1 (s : (Sl T.Rx)) (b : (Sl Int)) : Option ((Int)) :=
  slices_IndexFunc_LRx_rxtree_some_1_L0 (s, (s.l.length : Int), (0 : Int), b) >>= fun v2 =>
  match v2 with
  | .inl y3 =>
    some y3
  | .inr y4 =>
    some ((-1) : Int)
def slices_ContainsFunc_LRx_rxtree_some_1 (s : (Sl T.Rx)) (b : (Sl Int)) : Option ((Bool)) :=
  slices_IndexFunc_LRx_rxtree_some_1 s b >>= fun v2 =>
  some (decide (v2 ≥ (0 : Int)))
def rxtree_some (xs : (Sl T.Rx)) (kinds : (Sl Int)) : Option ((Bool)) :=
  slices_ContainsFunc_LRx_rxtree_some_1 xs kinds >>= fun v2 =>
  some v2
def rxtree_fields (x : T.Rx) : Option ((Bool)) :=
  if (x.kind == (2 : Int)) then
    rxtree_bare (T.Rx.mk x.kind ([] : Bytes) x.not x.rows x.min x.max x.lazy x.kids) >>= fun v3 =>
    if (v3 && ((x.kids.l.length : Int) == (0 : Int))) then
      char_Proper x.char >>= fun v7 =>
      some v7
    else
      some false
  else
  if (x.kind == (4 : Int)) then
    rxtree_bare (T.Rx.mk x.kind x.char false (⟨true, ([] : List T.Row)⟩ : (Sl T.Row)) x.min x.max x.lazy x.kids) >>= fun v10 =>
    if (v10 && ((x.kids.l.length : Int) == (0 : Int))) then
      rxset_May x.rows >>= fun v14 =>
      some v14
    else
      some false
  else
  if (x.kind == (7 : Int)) then
    rxtree_bare (T.Rx.mk x.kind x.char x.not x.rows (0 : Int) (0 : Int) false x.kids) >>= fun v17 =>
    if (v17 && ((x.kids.l.length : Int) == (1 : Int))) then
      geti x.kids.l (0 : Int) >>= fun x21 =>
      rxtree_repeated x21.kind >>= fun v23 =>
      if (v23 && ((decide (x.min ≥ (0 : Int))) && (decide (x.min ≤ (255 : Int))))) then
        if (x.max == ((-1) : Int)) then
          some true
        else
        if (decide (x.max ≥ x.min)) then
          some (decide (x.max ≤ (255 : Int)))
        else
          some false
      else
        some false
    else
      some false
  else
  if (x.kind == (0 : Int)) then
    rxtree_bare x >>= fun v31 =>
    if (v31 && ((x.kids.l.length : Int) != (1 : Int))) then
      rxtree_some x.kids (⟨false, [(0 : Int), (1 : Int)]⟩ : Sl Int) >>= fun v35 =>
      some (!v35)
    else
      some false
  else
  if (x.kind == (1 : Int)) then
    rxtree_bare x >>= fun v38 =>
    if (v38 && (decide ((x.kids.l.length : Int) > (1 : Int)))) then
      rxtree_some x.kids (⟨false, [(1 : Int)]⟩ : Sl Int) >>= fun v42 =>
      some (!v42)
    else
      some false
  else
  if ((x.kind == (5 : Int)) || (x.kind == (6 : Int))) then
    rxtree_bare x >>= fun v45 =>
    if v45 then
      some ((x.kids.l.length : Int) == (1 : Int))
    else
      some false
  else
  if ((x.kind == (3 : Int)) || ((x.kind == (8 : Int)) || ((x.kind == (9 : Int)) || ((x.kind == (10 : Int)) || (x.kind == (11 : Int)))))) then
    rxtree_bare x >>= fun v53 =>
    if v53 then
      some ((x.kids.l.length : Int) == (0 : Int))
    else
      some false
  else
    some false
mutual
def rxtree_fits : (T.Rx × Int × Int) → Option ((Int × Bool))
  | (x, left, deep) =>
    rxtree_group x.kind >>= fun v2 =>
    if v2 then
      if ((decide (left < (1 : Int))) || (decide ((IntKind.i64.wrap (deep - (1 : Int))) < (0 : Int)))) then
        some (left, false)
      else
        rxtree_fields x >>= fun v7 =>
        if (!v7) then
          some (left, false)
        else
          rxtree_fits_L0 ((IntKind.i64.wrap (left - (1 : Int))), (IntKind.i64.wrap (deep - (1 : Int))), x.kids, (x.kids.l.length : Int), (0 : Int), x) >>= fun v10 =>
          match v10 with
          | .inl y11 =>
            some (y11.2.1, y11.2.2)
          | .inr y12 =>
            some (y12, true)
    else
    if ((decide (left < (1 : Int))) || (decide (deep < (0 : Int)))) then
      some (left, false)
    else
      rxtree_fields x >>= fun v16 =>
      if (!v16) then
        some (left, false)
      else
        rxtree_fits_L0 ((IntKind.i64.wrap (left - (1 : Int))), deep, x.kids, (x.kids.l.length : Int), (0 : Int), x) >>= fun v19 =>
        match v19 with
        | .inl y20 =>
          some (y20.2.1, y20.2.2)
        | .inr y21 =>
          some (y21, true)
  partial_fixpoint
def rxtree_fits_L0 : (Int × Int × (Sl T.Rx) × Int × Int × T.Rx) → Option (((Int × Int × Bool) ⊕ (Int)))
  | (left, deep, t31, t32, t33, b0_) =>
    if (decide (t33 < t32)) then
      geti t31.l t33 >>= fun x3 =>
      rxtree_fits (x3, left, deep) >>= fun v5 =>
      if (!v5.2) then
        some (.inl (v5.1, v5.1, false))
      else
        rxtree_fits_L0 (v5.1, deep, t31, t32, (IntKind.i64.wrap (t33 + (1 : Int))), b0_)
    else
      some (.inr left)
  partial_fixpoint
end
def rxtree_May (x : T.Rx) : Option ((Bool)) :=
  rxtree_fits (x, (512 : Int), (16 : Int)) >>= fun v2 =>
  some v2.2
def fmts_blank (f : T.Fmt) (n : Bool) (way : Bool) (thn : Bool) (other : Bool) : Option ((Bool)) :=
  if (n || (f.n == (0 : Int))) then
    if way then
      if (thn || (f.thn == ([] : Bytes))) then
        if other then
          some true
        else
          some (f.els == ([] : Bytes))
      else
        some false
    else
    if ((f.cas == (0 : Int)) && (thn || (f.thn == ([] : Bytes)))) then
      if other then
        some true
      else
        some (f.els == ([] : Bytes))
    else
      some false
  else
    some false
def casing_names : Option (((Sl Bytes))) :=
  some (⟨false, [([] : Bytes), ([117, 112, 99, 97, 115, 101] : Bytes), ([100, 111, 119, 110, 99, 97, 115, 101] : Bytes), ([99, 97, 112, 105, 116, 97, 108, 105, 122, 101] : Bytes), ([99, 97, 109, 101, 108, 99, 97, 115, 101] : Bytes), ([112, 97, 115, 99, 97, 108, 99, 97, 115, 101] : Bytes)]⟩ : Sl Bytes)
def casing_Name (way : Int) : Option ((Bytes)) :=
  if ((decide (way < (1 : Int))) || (decide (way > (5 : Int)))) then
    some ([] : Bytes)
  else
    casing_names >>= fun v4 =>
    geti v4.l way >>= fun x6 =>
    some x6
def fmts_may (f : T.Fmt) : Option ((Bool)) :=
  if ((decide (f.n < (0 : Int))) || (decide (f.n > (9999 : Int)))) then
    some false
  else
  if (f.kind == (0 : Int)) then
    fmts_blank f false false true false >>= fun v5 =>
    if v5 then
      some (!(f.thn == ([] : Bytes)))
    else
      some false
  else
  if (f.kind == (1 : Int)) then
    fmts_blank f true false false false >>= fun v9 =>
    some v9
  else
  if (f.kind == (2 : Int)) then
    fmts_blank f true true false false >>= fun v12 =>
    if v12 then
      casing_Name f.cas >>= fun v15 =>
      some (!(v15 == ([] : Bytes)))
    else
      some false
  else
  if (f.kind == (3 : Int)) then
    fmts_blank f true false true false >>= fun v18 =>
    some v18
  else
  if (f.kind == (4 : Int)) then
    fmts_blank f true false false true >>= fun v21 =>
    some v21
  else
  if (f.kind == (5 : Int)) then
    fmts_blank f true false true true >>= fun v24 =>
    some v24
  else
    some false
def fmts_May_L0 : ((Sl T.Fmt) × (Sl T.Fmt) × Int × Int) → Option (((Bool) ⊕ (Unit)))
  | (fs, t5, t6, t7) =>
    if (decide (t7 < t6)) then
      geti t5.l t7 >>= fun x3 =>
      fmts_may x3 >>= fun v5 =>
      if (!v5) then
        some (.inl false)
      else
      if ((x3.kind == (0 : Int)) && (decide (t7 > (0 : Int)))) then
        geti fs.l (IntKind.i64.wrap (t7 - (1 : Int))) >>= fun x10 =>
        if (x10.kind == (0 : Int)) then
          some (.inl false)
        else
          fmts_May_L0 (fs, t5, t6, (IntKind.i64.wrap (t7 + (1 : Int))))
      else
        fmts_May_L0 (fs, t5, t6, (IntKind.i64.wrap (t7 + (1 : Int))))
    else
      some (.inr ())
  partial_fixpoint
def fmts_May (fs : (Sl T.Fmt)) : Option ((Bool)) :=
  fmts_May_L0 (fs, fs, (fs.l.length : Int), (0 : Int)) >>= fun v2 =>
  match v2 with
  | .inl y3 =>
    some y3
  | .inr y4 =>
    some true
def xform_May (f : T.Form) : Option ((Bool)) :=
  rxtree_May f.rx >>= fun v2 =>
  if v2 then
    fmts_May f.fmts >>= fun v5 =>
    some v5
  else
    some false
def snode_besides (x : T.Snip) : Option ((Bool)) :=
  if x.has then
    if x.turned then
      some false
    else
      xform_Same x.form (T.Form.mk (T.Rx.mk (0 : Int) ([] : Bytes) false (⟨true, ([] : List T.Row)⟩ : (Sl T.Row)) (0 : Int) (0 : Int) false (⟨true, ([] : List T.Rx)⟩ : (Sl T.Rx))) (⟨true, ([] : List T.Fmt)⟩ : (Sl T.Fmt)) false false) >>= fun v4 =>
      some v4
  else
  if x.turned then
    if ((x.kids.l.length : Int) == (0 : Int)) then
      xform_May x.form >>= fun v8 =>
      some v8
    else
      some false
  else
    snode_nothing x >>= fun v10 =>
    some v10
def snode_NameByte (c : UInt8) : Option ((Bool)) :=
  if (((decide ((c.toNat : Int) ≥ (97 : Int))) && (decide ((c.toNat : Int) ≤ (122 : Int)))) || (((decide ((c.toNat : Int) ≥ (65 : Int))) && (decide ((c.toNat : Int) ≤ (90 : Int)))) || ((decide ((c.toNat : Int) ≥ (48 : Int))) && (decide ((c.toNat : Int) ≤ (57 : Int)))))) then
    some true
  else
    some ((c.toNat : Int) == (95 : Int))
def snode_Name_L0 : (Bytes × Int) → Option (((Bool) ⊕ (Unit)))
  | (s, i) =>
    if (decide (i < (s.length : Int))) then
      geti s i >>= fun b3 =>
      snode_NameByte b3 >>= fun v5 =>
      if (!v5) then
        some (.inl false)
      else
      if (i == (0 : Int)) then
        if (decide ((b3.toNat : Int) ≤ (57 : Int))) then
          some (.inl false)
        else
          snode_Name_L0 (s, (IntKind.i64.wrap (i + (1 : Int))))
      else
        snode_Name_L0 (s, (IntKind.i64.wrap (i + (1 : Int))))
    else
      some (.inr ())
  partial_fixpoint
def snode_Name (s : Bytes) : Option ((Bool)) :=
  snode_Name_L0 (s, (0 : Int)) >>= fun v2 =>
  match v2 with
  | .inl y3 =>
    some y3
  | .inr y4 =>
    if (!(s == ([] : Bytes))) then
      some (decide ((s.length : Int) ≤ (64 : Int)))
    else
      some false
def snode_fields (x : T.Snip) : Option ((Bool)) :=
  if (decide (x.n ≥ (0 : Int))) then
    if (x.kind == (0 : Int)) then
      if ((!(x.text == ([] : Bytes))) && ((x.n == (0 : Int)) && ((x.opts.l.length : Int) == (0 : Int)))) then
        snode_nothing x >>= fun v7 =>
        some v7
      else
        some false
    else
    if (x.kind == (1 : Int)) then
      if ((x.text == ([] : Bytes)) && ((decide (x.n ≤ (9999 : Int))) && ((x.opts.l.length : Int) == (0 : Int)))) then
        snode_besides x >>= fun v13 =>
        some v13
      else
        some false
    else
    if (x.kind == (2 : Int)) then
      if ((x.text == ([] : Bytes)) && ((decide (x.n ≤ (9999 : Int))) && (decide ((x.opts.l.length : Int) > (0 : Int))))) then
        snode_nothing x >>= fun v19 =>
        some v19
      else
        some false
    else
    if (x.kind == (3 : Int)) then
      snode_Name x.text >>= fun v22 =>
      if (v22 && ((x.n == (0 : Int)) && ((x.opts.l.length : Int) == (0 : Int)))) then
        snode_besides x >>= fun v27 =>
        some v27
      else
        some false
    else
      some false
  else
  if (x.kind == (0 : Int)) then
    if ((!(x.text == ([] : Bytes))) && ((x.n == (0 : Int)) && ((x.opts.l.length : Int) == (0 : Int)))) then
      snode_nothing x >>= fun v33 =>
      some v33
    else
      some false
  else
  if ((x.kind == (1 : Int)) || (x.kind == (2 : Int))) then
    if (x.text == ([] : Bytes)) then
      some false
    else
      some false
  else
  if (x.kind == (3 : Int)) then
    snode_Name x.text >>= fun v40 =>
    if (v40 && ((x.n == (0 : Int)) && ((x.opts.l.length : Int) == (0 : Int)))) then
      snode_besides x >>= fun v45 =>
      some v45
    else
      some false
  else
    some false
mutual
def snode_fits : ((Sl T.Snip) × Int) → Option ((Bool))
  | (l, deep) =>
    snode_fits_L0 (l, deep, l, (l.l.length : Int), (0 : Int)) >>= fun v2 =>
    match v2 with
    | .inl y3 =>
      some y3
    | .inr y4 =>
      some true
  partial_fixpoint
def snode_fits_L0 : ((Sl T.Snip) × Int × (Sl T.Snip) × Int × Int) → Option (((Bool) ⊕ (Unit)))
  | (l, deep, t7, t8, t9) =>
    if (decide (t9 < t8)) then
      geti t7.l t9 >>= fun x3 =>
      snode_fields x3 >>= fun v5 =>
      if (!v5) then
        some (.inl false)
      else
      if ((x3.kind == (0 : Int)) && (decide (t9 > (0 : Int)))) then
        geti l.l (IntKind.i64.wrap (t9 - (1 : Int))) >>= fun x10 =>
        if (x10.kind == (0 : Int)) then
          some (.inl false)
        else
        if x3.has then
          if (deep == (0 : Int)) then
            some (.inl false)
          else
            snode_fits (x3.kids, (IntKind.i64.wrap (deep - (1 : Int)))) >>= fun v15 =>
            if (!v15) then
              some (.inl false)
            else
              snode_fits_L0 (l, deep, t7, t8, (IntKind.i64.wrap (t9 + (1 : Int))))
        else
          snode_fits_L0 (l, deep, t7, t8, (IntKind.i64.wrap (t9 + (1 : Int))))
      else
      if x3.has then
        if (deep == (0 : Int)) then
          some (.inl false)
        else
          snode_fits (x3.kids, (IntKind.i64.wrap (deep - (1 : Int)))) >>= fun v25 =>
          if (!v25) then
            some (.inl false)
          else
            snode_fits_L0 (l, deep, t7, t8, (IntKind.i64.wrap (t9 + (1 : Int))))
      else
        snode_fits_L0 (l, deep, t7, t8, (IntKind.i64.wrap (t9 + (1 : Int))))
    else
      some (.inr ())
  partial_fixpoint
end
def snode_May (l : (Sl T.Snip)) : Option ((Bool)) :=
  snode_fits (l, (32 : Int)) >>= fun v2 =>
  some v2
mutual
def ref20_Deep (l : (Sl T.Snip)) : Option ((Int)) :=
    ref20_Deep_L0 (l, (0 : Int), (0 : Int)) >>= fun v2 =>
    some v2
  partial_fixpoint
def ref20_Deep_L0 : ((Sl T.Snip) × Int × Int) → Option ((Int))
  | (l, n, i) =>
    if (decide (i < (l.l.length : Int))) then
      geti l.l i >>= fun x3 =>
      ref20_Deep x3.kids >>= fun v5 =>
      if x3.has then
        ref20_Deep_L0 (l, (if (IntKind.i64.wrap (v5 + (1 : Int))) > n then (IntKind.i64.wrap (v5 + (1 : Int))) else n), (IntKind.i64.wrap (i + (1 : Int))))
      else
        ref20_Deep_L0 (l, (if v5 > n then v5 else n), (IntKind.i64.wrap (i + (1 : Int))))
    else
      some n
  partial_fixpoint
end
def ref13_Same_L0 : (Int × T.Rx × T.Rx) → Option (((Bool) ⊕ (Unit)))
  | (i, a, b) =>
    if (decide (i < (a.rows.l.length : Int))) then
      geti a.rows.l i >>= fun x3 =>
      geti b.rows.l i >>= fun x5 =>
      if (!(x3.frm == x5.frm && (x3.to == x5.to))) then
        some (.inl false)
      else
        ref13_Same_L0 ((IntKind.i64.wrap (i + (1 : Int))), a, b)
    else
      some (.inr ())
  partial_fixpoint
mutual
def ref13_Same : (T.Rx × T.Rx) → Option ((Bool))
  | (a, b) =>
    if ((a.kind != b.kind) || ((!(a.char == b.char)) || ((!(a.not == b.not)) || ((a.min != b.min) || ((a.max != b.max) || ((!(a.lazy == b.lazy)) || (((a.rows.l.length : Int) != (b.rows.l.length : Int)) || ((a.kids.l.length : Int) != (b.kids.l.length : Int))))))))) then
      some false
    else
      ref13_Same_L0 ((0 : Int), a, b) >>= fun v10 =>
      match v10 with
      | .inl y11 =>
        some y11
      | .inr y12 =>
        ref13_Same_L2 ((0 : Int), a, b) >>= fun v14 =>
        match v14 with
        | .inl y15 =>
          some y15
        | .inr y16 =>
          some true
  partial_fixpoint
def ref13_Same_L2 : (Int × T.Rx × T.Rx) → Option (((Bool) ⊕ (Unit)))
  | (i, a, b) =>
    if (decide (i < (a.kids.l.length : Int))) then
      geti a.kids.l i >>= fun x3 =>
      geti b.kids.l i >>= fun x5 =>
      ref13_Same (x3, x5) >>= fun v7 =>
      if (!v7) then
        some (.inl false)
      else
        ref13_Same_L2 ((IntKind.i64.wrap (i + (1 : Int))), a, b)
    else
      some (.inr ())
  partial_fixpoint
end
def ref20_SameForm_L0 : (Int × T.Form × T.Form) → Option (((Bool) ⊕ (Unit)))
  | (i, a, b) =>
    if (decide (i < (a.fmts.l.length : Int))) then
      geti a.fmts.l i >>= fun x3 =>
      geti b.fmts.l i >>= fun x5 =>
      if (!(x3.kind == x5.kind && (x3.n == x5.n && (x3.cas == x5.cas && (x3.thn == x5.thn && (x3.els == x5.els)))))) then
        some (.inl false)
      else
        ref20_SameForm_L0 ((IntKind.i64.wrap (i + (1 : Int))), a, b)
    else
      some (.inr ())
  partial_fixpoint
def ref20_SameForm (a : T.Form) (b : T.Form) : Option ((Bool)) :=
  ref13_Same (a.rx, b.rx) >>= fun v2 =>
  if ((!v2) || ((!(a.fold == b.fold)) || ((!(a.all == b.all)) || ((a.fmts.l.length : Int) != (b.fmts.l.length : Int))))) then
    some false
  else
    ref20_SameForm_L0 ((0 : Int), a, b) >>= fun v8 =>
    match v8 with
    | .inl y9 =>
      some y9
    | .inr y10 =>
      some true
mutual
def ref13_Parts (x : T.Rx) : Option ((Int)) :=
    ref13_Parts_L0 ((1 : Int), (0 : Int), x) >>= fun v2 =>
    some v2
  partial_fixpoint
def ref13_Parts_L0 : (Int × Int × T.Rx) → Option ((Int))
  | (n, i, x) =>
    if (decide (i < (x.kids.l.length : Int))) then
      geti x.kids.l i >>= fun x3 =>
      ref13_Parts x3 >>= fun v5 =>
      ref13_Parts_L0 ((IntKind.i64.wrap (n + v5)), (IntKind.i64.wrap (i + (1 : Int))), x)
    else
      some n
  partial_fixpoint
end
mutual
def ref13_Deep (x : T.Rx) : Option ((Int)) :=
    ref13_Deep_L0 ((0 : Int), (0 : Int), x) >>= fun v2 =>
    if ((x.kind == (5 : Int)) || (x.kind == (6 : Int))) then
      some (IntKind.i64.wrap (v2 + (1 : Int)))
    else
      some v2
  partial_fixpoint
def ref13_Deep_L0 : (Int × Int × T.Rx) → Option ((Int))
  | (n, i, x) =>
    if (decide (i < (x.kids.l.length : Int))) then
      geti x.kids.l i >>= fun x3 =>
      ref13_Deep x3 >>= fun v5 =>
      ref13_Deep_L0 ((if v5 > n then v5 else n), (IntKind.i64.wrap (i + (1 : Int))), x)
    else
      some n
  partial_fixpoint
end
def ref13_may_L3 : (Int × Int × T.Rx) → Option (((Bool) ⊕ (Unit)))
  | (n, i, x) =>
    if (decide (i < n)) then
      geti x.kids.l i >>= fun x3 =>
      if (x3.kind == (0 : Int)) then
        some (.inl false)
      else
      if (x3.kind == (1 : Int)) then
        some (.inl false)
      else
        ref13_may_L3 (n, (IntKind.i64.wrap (i + (1 : Int))), x)
    else
      some (.inr ())
  partial_fixpoint
def ref13_bare (x : T.Rx) : Option ((Bool)) :=
  if ((x.char == ([] : Bytes)) && ((!x.not) && (((x.rows.l.length : Int) == (0 : Int)) && ((x.min == (0 : Int)) && (x.max == (0 : Int)))))) then
    some (!x.lazy)
  else
    some false
def ref13_may_L5 : (Int × Int × T.Rx) → Option (((Bool) ⊕ (Unit)))
  | (n, i, x) =>
    if (decide (i < n)) then
      geti x.kids.l i >>= fun x3 =>
      if (x3.kind == (1 : Int)) then
        some (.inl false)
      else
        ref13_may_L5 (n, (IntKind.i64.wrap (i + (1 : Int))), x)
    else
      some (.inr ())
  partial_fixpoint
def ref2_Lead (c : UInt8) : Option ((Bool)) :=
  if (decide ((c.toNat : Int) < (128 : Int))) then
    some true
  else
    some (decide ((c.toNat : Int) > (191 : Int)))
def ref11_Split_L0 : (Bytes × Int × Int × (List Bytes)) → Option (((List Bytes)))
  | (s, frm, i, l) =>
    if (decide (i ≤ (s.length : Int))) then
      if (i == (s.length : Int)) then
        sub2 s frm i >>= fun r4 =>
        if roomOK (l.length + 1) 16 = true then
          ref11_Split_L0 (s, i, (IntKind.i64.wrap (i + (1 : Int))), (l ++ [r4]))
        else none
      else
        geti s i >>= fun b7 =>
        ref2_Lead b7 >>= fun v9 =>
        if v9 then
          sub2 s frm i >>= fun r12 =>
          if roomOK (l.length + 1) 16 = true then
            ref11_Split_L0 (s, i, (IntKind.i64.wrap (i + (1 : Int))), (l ++ [r12]))
          else none
        else
          ref11_Split_L0 (s, frm, (IntKind.i64.wrap (i + (1 : Int))), l)
    else
      some l
  partial_fixpoint
def ref11_Split (s : Bytes) : Option (((Sl Bytes))) :=
  ref11_Split_L0 (s, (0 : Int), (1 : Int), ([] : List Bytes)) >>= fun v2 =>
  some (⟨v2.isEmpty, v2⟩ : Sl Bytes)
def ref11_Proper (c : Bytes) : Option ((Bool)) :=
  if (decide ((c.length : Int) > (0 : Int))) then
    geti c (0 : Int) >>= fun b3 =>
    ref2_Lead b3 >>= fun v5 =>
    if v5 then
      ref11_Split c >>= fun v8 =>
      some ((v8.l.length : Int) == (1 : Int))
    else
      some false
  else
    some false
def ref12_May_L0 : ((Sl T.Row) × Int) → Option (((Bool) ⊕ (Unit)))
  | (rows, i) =>
    if (decide (i < (rows.l.length : Int))) then
      geti rows.l i >>= fun x3 =>
      ref11_Proper x3.frm >>= fun v5 =>
      if (!v5) then
        some (.inl false)
      else
        ref11_Proper x3.to >>= fun v8 =>
        if ((!v8) || (!(bytesLt x3.frm x3.to || x3.frm == x3.to))) then
          some (.inl false)
        else
        if (decide (i > (0 : Int))) then
          geti rows.l (IntKind.i64.wrap (i - (1 : Int))) >>= fun x13 =>
          if (bytesLt x3.frm x13.to || x3.frm == x13.to) then
            some (.inl false)
          else
            ref12_May_L0 (rows, (IntKind.i64.wrap (i + (1 : Int))))
        else
          ref12_May_L0 (rows, (IntKind.i64.wrap (i + (1 : Int))))
    else
      some (.inr ())
  partial_fixpoint
def ref12_May (rows : (Sl T.Row)) : Option ((Bool)) :=
  ref12_May_L0 (rows, (0 : Int)) >>= fun v2 =>
  match v2 with
  | .inl y3 =>
    some y3
  | .inr y4 =>
    some true
def ref13_repeat (x : T.Rx) : Option ((Bool)) :=
  if (((x.kids.l.length : Int) != (1 : Int)) || ((decide (x.min < (0 : Int))) || ((decide (x.min > (255 : Int))) || ((x.max != ((-1) : Int)) && ((decide (x.max < x.min)) || (decide (x.max > (255 : Int)))))))) then
    some false
  else
    geti x.kids.l (0 : Int) >>= fun x17 =>
    ref13_bare (T.Rx.mk x.kind x.char x.not x.rows (0 : Int) (0 : Int) false x.kids) >>= fun v19 =>
    if v19 then
      if ((x17.kind == (2 : Int)) || ((x17.kind == (3 : Int)) || ((x17.kind == (4 : Int)) || (x17.kind == (5 : Int))))) then
        some true
      else
        some (x17.kind == (6 : Int))
    else
      some false
mutual
def ref13_may (x : T.Rx) : Option ((Bool)) :=
    ref13_may_L0 ((x.kids.l.length : Int), (0 : Int), x) >>= fun v2 =>
    match v2 with
    | .inl y3 =>
      some y3
    | .inr y4 =>
      if (x.kind == (0 : Int)) then
        ref13_may_L3 ((x.kids.l.length : Int), (0 : Int), x) >>= fun v7 =>
        match v7 with
        | .inl y8 =>
          some y8
        | .inr y9 =>
          ref13_bare x >>= fun v11 =>
          if v11 then
            some ((x.kids.l.length : Int) != (1 : Int))
          else
            some false
      else
      if (x.kind == (1 : Int)) then
        ref13_may_L5 ((x.kids.l.length : Int), (0 : Int), x) >>= fun v15 =>
        match v15 with
        | .inl y16 =>
          some y16
        | .inr y17 =>
          ref13_bare x >>= fun v19 =>
          if v19 then
            some (decide ((x.kids.l.length : Int) ≥ (2 : Int)))
          else
            some false
      else
      if (x.kind == (2 : Int)) then
        ref13_bare (T.Rx.mk x.kind ([] : Bytes) x.not x.rows x.min x.max x.lazy x.kids) >>= fun v23 =>
        if (v23 && ((x.kids.l.length : Int) == (0 : Int))) then
          ref11_Proper x.char >>= fun v27 =>
          some v27
        else
          some false
      else
      if ((x.kind == (3 : Int)) || ((x.kind == (8 : Int)) || ((x.kind == (9 : Int)) || ((x.kind == (10 : Int)) || (x.kind == (11 : Int)))))) then
        ref13_bare x >>= fun v30 =>
        if v30 then
          some ((x.kids.l.length : Int) == (0 : Int))
        else
          some false
      else
      if (x.kind == (4 : Int)) then
        ref13_bare (T.Rx.mk x.kind x.char false (⟨true, ([] : List T.Row)⟩ : (Sl T.Row)) x.min x.max x.lazy x.kids) >>= fun v50 =>
        if (v50 && ((x.kids.l.length : Int) == (0 : Int))) then
          ref12_May x.rows >>= fun v54 =>
          some v54
        else
          some false
      else
      if ((x.kind == (5 : Int)) || (x.kind == (6 : Int))) then
        ref13_bare x >>= fun v57 =>
        if v57 then
          some ((x.kids.l.length : Int) == (1 : Int))
        else
          some false
      else
      if (x.kind == (7 : Int)) then
        ref13_repeat x >>= fun v65 =>
        some v65
      else
        some false
  partial_fixpoint
def ref13_may_L0 : (Int × Int × T.Rx) → Option (((Bool) ⊕ (Unit)))
  | (n, i, x) =>
    if (decide (i < n)) then
      geti x.kids.l i >>= fun x3 =>
      ref13_may x3 >>= fun v5 =>
      if (!v5) then
        some (.inl false)
      else
        ref13_may_L0 (n, (IntKind.i64.wrap (i + (1 : Int))), x)
    else
      some (.inr ())
  partial_fixpoint
end
def ref13_May (x : T.Rx) : Option ((Bool)) :=
  ref13_Parts x >>= fun v2 =>
  if (decide (v2 ≤ (512 : Int))) then
    ref13_Deep x >>= fun v5 =>
    if (decide (v5 ≤ (16 : Int))) then
      ref13_may x >>= fun v8 =>
      some v8
    else
      some false
  else
    some false
def ref17_Name (way : Int) : Option ((Bytes)) :=
  if (way == (1 : Int)) then
    some ([117, 112, 99, 97, 115, 101] : Bytes)
  else
  if (way == (2 : Int)) then
    some ([100, 111, 119, 110, 99, 97, 115, 101] : Bytes)
  else
  if (way == (3 : Int)) then
    some ([99, 97, 112, 105, 116, 97, 108, 105, 122, 101] : Bytes)
  else
  if (way == (4 : Int)) then
    some ([99, 97, 109, 101, 108, 99, 97, 115, 101] : Bytes)
  else
  if (way == (5 : Int)) then
    some ([112, 97, 115, 99, 97, 108, 99, 97, 115, 101] : Bytes)
  else
    some ([] : Bytes)
def ref18_May_L0 : ((Sl T.Fmt) × Int) → Option (((Bool) ⊕ (Unit)))
  | (fs, i) =>
    if (decide (i < (fs.l.length : Int))) then
      geti fs.l i >>= fun x3 =>
      if (decide (x3.n ≥ (0 : Int))) then
        if (x3.kind == (0 : Int)) then
          if ((x3.n == (0 : Int)) && ((x3.cas == (0 : Int)) && ((x3.els == ([] : Bytes)) && (!(x3.thn == ([] : Bytes)))))) then
            if (i == (0 : Int)) then
              ref18_May_L0 (fs, (IntKind.i64.wrap (i + (1 : Int))))
            else
              geti fs.l (IntKind.i64.wrap (i - (1 : Int))) >>= fun x12 =>
              if (!(x12.kind != (0 : Int))) then
                some (.inl false)
              else
                ref18_May_L0 (fs, (IntKind.i64.wrap (i + (1 : Int))))
          else
            some (.inl false)
        else
        if (x3.kind == (1 : Int)) then
          if ((decide (x3.n ≤ (9999 : Int))) && ((x3.cas == (0 : Int)) && (x3.thn == ([] : Bytes)))) then
            if (!(x3.els == ([] : Bytes))) then
              some (.inl false)
            else
              ref18_May_L0 (fs, (IntKind.i64.wrap (i + (1 : Int))))
          else
            some (.inl false)
        else
        if (x3.kind == (2 : Int)) then
          if (decide (x3.n ≤ (9999 : Int))) then
            ref17_Name x3.cas >>= fun v22 =>
            if ((!(v22 == ([] : Bytes))) && (x3.thn == ([] : Bytes))) then
              if (!(x3.els == ([] : Bytes))) then
                some (.inl false)
              else
                ref18_May_L0 (fs, (IntKind.i64.wrap (i + (1 : Int))))
            else
              some (.inl false)
          else
            some (.inl false)
        else
        if (x3.kind == (3 : Int)) then
          if ((decide (x3.n ≤ (9999 : Int))) && (x3.cas == (0 : Int))) then
            if (!(x3.els == ([] : Bytes))) then
              some (.inl false)
            else
              ref18_May_L0 (fs, (IntKind.i64.wrap (i + (1 : Int))))
          else
            some (.inl false)
        else
        if (x3.kind == (4 : Int)) then
          if ((decide (x3.n ≤ (9999 : Int))) && (x3.cas == (0 : Int))) then
            if (!(x3.thn == ([] : Bytes))) then
              some (.inl false)
            else
              ref18_May_L0 (fs, (IntKind.i64.wrap (i + (1 : Int))))
          else
            some (.inl false)
        else
        if ((x3.kind == (5 : Int)) && (decide (x3.n ≤ (9999 : Int)))) then
          if (!(x3.cas == (0 : Int))) then
            some (.inl false)
          else
            ref18_May_L0 (fs, (IntKind.i64.wrap (i + (1 : Int))))
        else
          some (.inl false)
      else
      if (x3.kind == (0 : Int)) then
        if ((x3.n == (0 : Int)) && ((x3.cas == (0 : Int)) && ((x3.els == ([] : Bytes)) && (!(x3.thn == ([] : Bytes)))))) then
          if (i == (0 : Int)) then
            ref18_May_L0 (fs, (IntKind.i64.wrap (i + (1 : Int))))
          else
            geti fs.l (IntKind.i64.wrap (i - (1 : Int))) >>= fun x44 =>
            if (!(x44.kind != (0 : Int))) then
              some (.inl false)
            else
              ref18_May_L0 (fs, (IntKind.i64.wrap (i + (1 : Int))))
        else
          some (.inl false)
      else
      if ((x3.kind == (1 : Int)) || ((x3.kind == (2 : Int)) || ((x3.kind == (3 : Int)) || ((x3.kind == (4 : Int)) || (x3.kind == (5 : Int)))))) then
        some (.inl false)
      else
        some (.inl false)
    else
      some (.inr ())
  partial_fixpoint
def ref18_May (fs : (Sl T.Fmt)) : Option ((Bool)) :=
  ref18_May_L0 (fs, (0 : Int)) >>= fun v2 =>
  match v2 with
  | .inl y3 =>
    some y3
  | .inr y4 =>
    some true
def ref19_May (f : T.Form) : Option ((Bool)) :=
  ref13_May f.rx >>= fun v2 =>
  if v2 then
    ref18_May f.fmts >>= fun v5 =>
    some v5
  else
    some false
def ref11_Letter (c : UInt8) : Option ((Bool)) :=
  if ((decide ((c.toNat : Int) ≥ (65 : Int))) && (decide ((c.toNat : Int) ≤ (90 : Int)))) then
    some true
  else
  if (decide ((c.toNat : Int) ≥ (97 : Int))) then
    some (decide ((c.toNat : Int) ≤ (122 : Int)))
  else
    some false
def ref11_Digit (c : UInt8) : Option ((Bool)) :=
  if (decide ((c.toNat : Int) ≥ (48 : Int))) then
    some (decide ((c.toNat : Int) ≤ (57 : Int)))
  else
    some false
def ref20_Name_L0 : (Bytes × Int) → Option (((Bool) ⊕ (Unit)))
  | (s, i) =>
    if (decide (i < (s.length : Int))) then
      geti s i >>= fun b3 =>
      ref11_Letter b3 >>= fun v5 =>
      if (!v5) then
        if ((b3.toNat : Int) != (95 : Int)) then
          if (i == (0 : Int)) then
            some (.inl false)
          else
            ref11_Digit b3 >>= fun v10 =>
            if (!v10) then
              some (.inl false)
            else
              ref20_Name_L0 (s, (IntKind.i64.wrap (i + (1 : Int))))
        else
          ref20_Name_L0 (s, (IntKind.i64.wrap (i + (1 : Int))))
      else
        ref20_Name_L0 (s, (IntKind.i64.wrap (i + (1 : Int))))
    else
      some (.inr ())
  partial_fixpoint
def ref20_Name (s : Bytes) : Option ((Bool)) :=
  if (((s.length : Int) == (0 : Int)) || (decide ((s.length : Int) > (64 : Int)))) then
    some false
  else
    ref20_Name_L0 (s, (0 : Int)) >>= fun v4 =>
    match v4 with
    | .inl y5 =>
      some y5
    | .inr y6 =>
      some true
mutual
def ref20_may (l : (Sl T.Snip)) : Option ((Bool)) :=
    ref20_may_L0 (l, (0 : Int)) >>= fun v2 =>
    match v2 with
    | .inl y3 =>
      some y3
    | .inr y4 =>
      some true
  partial_fixpoint
def ref20_may_L0 : ((Sl T.Snip) × Int) → Option (((Bool) ⊕ (Unit)))
  | (l, i) =>
    if (decide (i < (l.l.length : Int))) then
      geti l.l i >>= fun x3 =>
      if ((!x3.has) && (!x3.turned)) then
        ref20_SameForm x3.form (T.Form.mk (T.Rx.mk (0 : Int) ([] : Bytes) false (⟨true, ([] : List T.Row)⟩ : (Sl T.Row)) (0 : Int) (0 : Int) false (⟨true, ([] : List T.Rx)⟩ : (Sl T.Rx))) (⟨true, ([] : List T.Fmt)⟩ : (Sl T.Fmt)) false false) >>= fun v7 =>
        if v7 then
          if (decide (x3.n ≥ (0 : Int))) then
            if (x3.kind == (0 : Int)) then
              if (((x3.kids.l.length : Int) == (0 : Int)) && ((x3.n == (0 : Int)) && (((x3.opts.l.length : Int) == (0 : Int)) && (!(x3.text == ([] : Bytes)))))) then
                if (i == (0 : Int)) then
                  ref20_may_L0 (l, (IntKind.i64.wrap (i + (1 : Int))))
                else
                  geti l.l (IntKind.i64.wrap (i - (1 : Int))) >>= fun x17 =>
                  if (!(x17.kind != (0 : Int))) then
                    some (.inl false)
                  else
                    ref20_may_L0 (l, (IntKind.i64.wrap (i + (1 : Int))))
              else
                some (.inl false)
            else
            if (x3.kind == (1 : Int)) then
              if ((decide (x3.n ≤ (9999 : Int))) && (x3.text == ([] : Bytes))) then
                ref20_stop x3 >>= fun v23 =>
                if (!v23) then
                  some (.inl false)
                else
                  ref20_may_L0 (l, (IntKind.i64.wrap (i + (1 : Int))))
              else
                some (.inl false)
            else
            if (x3.kind == (2 : Int)) then
              if ((decide (x3.n ≤ (9999 : Int))) && ((x3.text == ([] : Bytes)) && ((x3.kids.l.length : Int) == (0 : Int)))) then
                if (!(decide ((x3.opts.l.length : Int) > (0 : Int)))) then
                  some (.inl false)
                else
                  ref20_may_L0 (l, (IntKind.i64.wrap (i + (1 : Int))))
              else
                some (.inl false)
            else
            if ((x3.kind == (3 : Int)) && (x3.n == (0 : Int))) then
              ref20_Name x3.text >>= fun v33 =>
              if v33 then
                ref20_stop x3 >>= fun v36 =>
                if (!v36) then
                  some (.inl false)
                else
                  ref20_may_L0 (l, (IntKind.i64.wrap (i + (1 : Int))))
              else
                some (.inl false)
            else
              some (.inl false)
          else
          if (x3.kind == (0 : Int)) then
            if (((x3.kids.l.length : Int) == (0 : Int)) && ((x3.n == (0 : Int)) && (((x3.opts.l.length : Int) == (0 : Int)) && (!(x3.text == ([] : Bytes)))))) then
              if (i == (0 : Int)) then
                ref20_may_L0 (l, (IntKind.i64.wrap (i + (1 : Int))))
              else
                geti l.l (IntKind.i64.wrap (i - (1 : Int))) >>= fun x45 =>
                if (!(x45.kind != (0 : Int))) then
                  some (.inl false)
                else
                  ref20_may_L0 (l, (IntKind.i64.wrap (i + (1 : Int))))
            else
              some (.inl false)
          else
          if ((x3.kind == (1 : Int)) || (x3.kind == (2 : Int))) then
            some (.inl false)
          else
          if ((x3.kind == (3 : Int)) && (x3.n == (0 : Int))) then
            ref20_Name x3.text >>= fun v52 =>
            if v52 then
              ref20_stop x3 >>= fun v55 =>
              if (!v55) then
                some (.inl false)
              else
                ref20_may_L0 (l, (IntKind.i64.wrap (i + (1 : Int))))
            else
              some (.inl false)
          else
            some (.inl false)
        else
        if (decide (x3.n ≥ (0 : Int))) then
          if (x3.kind == (0 : Int)) then
            some (.inl false)
          else
          if (x3.kind == (1 : Int)) then
            if ((decide (x3.n ≤ (9999 : Int))) && (x3.text == ([] : Bytes))) then
              ref20_stop x3 >>= fun v63 =>
              if (!v63) then
                some (.inl false)
              else
                ref20_may_L0 (l, (IntKind.i64.wrap (i + (1 : Int))))
            else
              some (.inl false)
          else
          if (x3.kind == (2 : Int)) then
            if ((decide (x3.n ≤ (9999 : Int))) && (x3.text == ([] : Bytes))) then
              some (.inl false)
            else
              some (.inl false)
          else
          if ((x3.kind == (3 : Int)) && (x3.n == (0 : Int))) then
            ref20_Name x3.text >>= fun v71 =>
            if v71 then
              ref20_stop x3 >>= fun v74 =>
              if (!v74) then
                some (.inl false)
              else
                ref20_may_L0 (l, (IntKind.i64.wrap (i + (1 : Int))))
            else
              some (.inl false)
          else
            some (.inl false)
        else
        if ((x3.kind == (0 : Int)) || ((x3.kind == (1 : Int)) || (x3.kind == (2 : Int)))) then
          some (.inl false)
        else
        if ((x3.kind == (3 : Int)) && (x3.n == (0 : Int))) then
          ref20_Name x3.text >>= fun v82 =>
          if v82 then
            ref20_stop x3 >>= fun v85 =>
            if (!v85) then
              some (.inl false)
            else
              ref20_may_L0 (l, (IntKind.i64.wrap (i + (1 : Int))))
          else
            some (.inl false)
        else
          some (.inl false)
      else
      if (decide (x3.n ≥ (0 : Int))) then
        if (x3.kind == (0 : Int)) then
          some (.inl false)
        else
        if (x3.kind == (1 : Int)) then
          if ((decide (x3.n ≤ (9999 : Int))) && (x3.text == ([] : Bytes))) then
            ref20_stop x3 >>= fun v123 =>
            if (!v123) then
              some (.inl false)
            else
              ref20_may_L0 (l, (IntKind.i64.wrap (i + (1 : Int))))
          else
            some (.inl false)
        else
        if (x3.kind == (2 : Int)) then
          if ((decide (x3.n ≤ (9999 : Int))) && (x3.text == ([] : Bytes))) then
            some (.inl false)
          else
            some (.inl false)
        else
        if ((x3.kind == (3 : Int)) && (x3.n == (0 : Int))) then
          ref20_Name x3.text >>= fun v131 =>
          if v131 then
            ref20_stop x3 >>= fun v134 =>
            if (!v134) then
              some (.inl false)
            else
              ref20_may_L0 (l, (IntKind.i64.wrap (i + (1 : Int))))
          else
            some (.inl false)
        else
          some (.inl false)
      else
      if ((x3.kind == (0 : Int)) || ((x3.kind == (1 : Int)) || (x3.kind == (2 : Int)))) then
        some (.inl false)
      else
      if ((x3.kind == (3 : Int)) && (x3.n == (0 : Int))) then
        ref20_Name x3.text >>= fun v142 =>
        if v142 then
          ref20_stop x3 >>= fun v145 =>
          if (!v145) then
            some (.inl false)
          else
            ref20_may_L0 (l, (IntKind.i64.wrap (i + (1 : Int))))
        else
          some (.inl false)
      else
        some (.inl false)
    else
      some (.inr ())
  partial_fixpoint
def ref20_stop (x : T.Snip) : Option ((Bool)) :=
    if (decide ((x.opts.l.length : Int) > (0 : Int))) then
      some false
    else
    if x.has then
      if x.turned then
        some false
      else
        ref20_SameForm x.form (T.Form.mk (T.Rx.mk (0 : Int) ([] : Bytes) false (⟨true, ([] : List T.Row)⟩ : (Sl T.Row)) (0 : Int) (0 : Int) false (⟨true, ([] : List T.Rx)⟩ : (Sl T.Rx))) (⟨true, ([] : List T.Fmt)⟩ : (Sl T.Fmt)) false false) >>= fun v5 =>
        if v5 then
          ref20_may x.kids >>= fun v8 =>
          some v8
        else
          some false
    else
    if (decide ((x.kids.l.length : Int) > (0 : Int))) then
      some false
    else
    if x.turned then
      ref19_May x.form >>= fun v12 =>
      some v12
    else
      ref20_SameForm x.form (T.Form.mk (T.Rx.mk (0 : Int) ([] : Bytes) false (⟨true, ([] : List T.Row)⟩ : (Sl T.Row)) (0 : Int) (0 : Int) false (⟨true, ([] : List T.Rx)⟩ : (Sl T.Rx))) (⟨true, ([] : List T.Fmt)⟩ : (Sl T.Fmt)) false false) >>= fun v14 =>
      if v14 then
        ref20_may x.kids >>= fun v17 =>
        some v17
      else
        some false
  partial_fixpoint
end
def ref20_May (l : (Sl T.Snip)) : Option ((Bool)) :=
  ref20_Deep l >>= fun v2 =>
  if (decide (v2 ≤ (32 : Int))) then
    ref20_may l >>= fun v5 =>
    some v5
  else
    some false
mutual
def snode_Deep (l : (Sl T.Snip)) : Option ((Int)) :=
    snode_Deep_L0 ((0 : Int), l, (l.l.length : Int), (0 : Int)) >>= fun v2 =>
    some v2
  partial_fixpoint
def snode_Deep_L0 : (Int × (Sl T.Snip) × Int × Int) → Option ((Int))
  | (most, t7, t8, t9) =>
    if (decide (t9 < t8)) then
      geti t7.l t9 >>= fun x3 =>
      snode_Deep x3.kids >>= fun v5 =>
      if x3.has then
        snode_Deep_L0 ((if (IntKind.i64.wrap (v5 + (1 : Int))) > most then (IntKind.i64.wrap (v5 + (1 : Int))) else most), t7, t8, (IntKind.i64.wrap (t9 + (1 : Int))))
      else
        snode_Deep_L0 ((if v5 > most then v5 else most), t7, t8, (IntKind.i64.wrap (t9 + (1 : Int))))
    else
      some most
  partial_fixpoint
end
mutual
def snode_Parts (l : (Sl T.Snip)) : Option ((Int)) :=
    snode_Parts_L0 ((l.l.length : Int), l, (l.l.length : Int), (0 : Int)) >>= fun v2 =>
    some v2
  partial_fixpoint
def snode_Parts_L0 : (Int × (Sl T.Snip) × Int × Int) → Option ((Int))
  | (n, t8, t9, t10) =>
    if (decide (t10 < t9)) then
      geti t8.l t10 >>= fun x3 =>
      snode_Parts x3.kids >>= fun v5 =>
      snode_Parts_L0 ((IntKind.i64.wrap (n + v5)), t8, t9, (IntKind.i64.wrap (t10 + (1 : Int))))
    else
      some n
  partial_fixpoint
end
mutual
def ref20_Parts (l : (Sl T.Snip)) : Option ((Int)) :=
    ref20_Parts_L0 (l, (0 : Int), (0 : Int)) >>= fun v2 =>
    some v2
  partial_fixpoint
def ref20_Parts_L0 : ((Sl T.Snip) × Int × Int) → Option ((Int))
  | (l, n, i) =>
    if (decide (i < (l.l.length : Int))) then
      geti l.l i >>= fun x3 =>
      ref20_Parts x3.kids >>= fun v5 =>
      ref20_Parts_L0 (l, (IntKind.i64.wrap ((IntKind.i64.wrap (n + (1 : Int))) + v5)), (IntKind.i64.wrap (i + (1 : Int))))
    else
      some n
  partial_fixpoint
end
mutual
def snode_numbers : ((Sl T.Snip) × MapII) → Option ((MapII))
  | (l, m) =>
    snode_numbers_L0 (l, (l.l.length : Int), (0 : Int), m) >>= fun v2 =>
    some v2
  partial_fixpoint
def snode_numbers_L0 : ((Sl T.Snip) × Int × Int × MapII) → Option ((MapII))
  | (t6, t7, t8, in_) =>
    if (decide (t8 < t7)) then
      geti t6.l t8 >>= fun x3 =>
      if ((x3.kind == (1 : Int)) || (x3.kind == (2 : Int))) then
        snode_numbers (x3.kids, (mput in_ x3.n (IntKind.i64.wrap ((mget in_ x3.n) + (1 : Int))))) >>= fun v6 =>
        snode_numbers_L0 (t6, t7, (IntKind.i64.wrap (t8 + (1 : Int))), v6)
      else
        snode_numbers (x3.kids, in_) >>= fun v11 =>
        snode_numbers_L0 (t6, t7, (IntKind.i64.wrap (t8 + (1 : Int))), v11)
    else
      some in_
  partial_fixpoint
end
def maps_Keys_map_int_int (m : MapII) : Option ((Unit)) :=
  some ()
def snode_Numbers (l : (Sl T.Snip)) : Option (((Sl Int))) :=
  snode_numbers (l, (⟨[], 0⟩ : MapII)) >>= fun v2 =>
  maps_Keys_map_int_int v2 >>= fun v4 =>
  sortedKeys v2 >>= fun v6 =>
  some (⟨v6.isEmpty, v6⟩ : Sl Int)
def ref20_Put_L0 : ((Sl Int) × Int × Int) → Option ((Int))
  | (ns, n, k) =>
    if (decide (k < (ns.l.length : Int))) then
      geti ns.l k >>= fun x3 =>
      if (decide (x3 < n)) then
        ref20_Put_L0 (ns, n, (IntKind.i64.wrap (k + (1 : Int))))
      else
        some k
    else
      some k
  partial_fixpoint
def ref20_Put (ns : (Sl Int)) (n : Int) : Option (((Sl Int))) :=
  ref20_Put_L0 (ns, n, (0 : Int)) >>= fun v2 =>
  if (decide (v2 < (ns.l.length : Int))) then
    geti ns.l v2 >>= fun x5 =>
    if (x5 == n) then
      some ns
    else
      subT ns.l v2 >>= fun r8 =>
      if roomOK (r8.length) 8 = true then
        if roomOK (r8.length + 1) 8 = true then
          subF ns.l v2 >>= fun r12 =>
          if roomOK ((r8 ++ [n]).length + r12.length) 8 = true then
            some (⟨false, ((r8 ++ [n]) ++ r12)⟩ : Sl Int)
          else none
        else none
      else none
  else
    subT ns.l v2 >>= fun r15 =>
    if roomOK (r15.length) 8 = true then
      if roomOK (r15.length + 1) 8 = true then
        subF ns.l v2 >>= fun r19 =>
        if roomOK ((r15 ++ [n]).length + r19.length) 8 = true then
          some (⟨false, ((r15 ++ [n]) ++ r19)⟩ : Sl Int)
        else none
      else none
    else none
mutual
def ref20_numbers : ((Sl Int) × (Sl T.Snip)) → Option (((Sl Int)))
  | (ns, l) =>
    ref20_numbers_L0 (ns, l, (0 : Int)) >>= fun v2 =>
    some v2
  partial_fixpoint
def ref20_numbers_L0 : ((Sl Int) × (Sl T.Snip) × Int) → Option (((Sl Int)))
  | (ns, l, i) =>
    if (decide (i < (l.l.length : Int))) then
      geti l.l i >>= fun x3 =>
      if (x3.kind == (1 : Int)) then
        ref20_Put ns x3.n >>= fun v6 =>
        ref20_numbers (v6, x3.kids) >>= fun v8 =>
        ref20_numbers_L0 (v8, l, (IntKind.i64.wrap (i + (1 : Int))))
      else
      if (x3.kind == (2 : Int)) then
        ref20_Put ns x3.n >>= fun v11 =>
        ref20_numbers (v11, x3.kids) >>= fun v13 =>
        ref20_numbers_L0 (v13, l, (IntKind.i64.wrap (i + (1 : Int))))
      else
        ref20_numbers (ns, x3.kids) >>= fun v15 =>
        ref20_numbers_L0 (v15, l, (IntKind.i64.wrap (i + (1 : Int))))
    else
      some ns
  partial_fixpoint
end
def ref20_Numbers (l : (Sl T.Snip)) : Option (((Sl Int))) :=
  ref20_numbers ((⟨true, ([] : List Int)⟩ : Sl Int), l) >>= fun v2 =>
  some v2
def law0_Ints_L0 : ((Sl Int) × (Sl Int) × Int) → Option (((Bool) ⊕ (Unit)))
  | (a, b, i) =>
    if (decide (i < (a.l.length : Int))) then
      geti a.l i >>= fun x3 =>
      geti b.l i >>= fun x5 =>
      if (x3 != x5) then
        some (.inl false)
      else
        law0_Ints_L0 (a, b, (IntKind.i64.wrap (i + (1 : Int))))
    else
      some (.inr ())
  partial_fixpoint
def law0_Ints (a : (Sl Int)) (b : (Sl Int)) : Option ((Bool)) :=
  if ((a.l.length : Int) != (b.l.length : Int)) then
    some false
  else
    law0_Ints_L0 (a, b, (0 : Int)) >>= fun v3 =>
    match v3 with
    | .inl y4 =>
      some y4
    | .inr y5 =>
      some true
def law20_NodeTells (s : (Sl T.Snip)) : Option ((Bool)) :=
  law0_Snips (s, (150 : Int)) >>= fun v2 =>
  if (decide (v2 < (0 : Int))) then
    aw5 >>= fun v5 =>
    some v5
  else
    snode_May s >>= fun v7 =>
    ref20_May s >>= fun v9 =>
    if (v7 == v9) then
      snode_Deep s >>= fun v12 =>
      ref20_Deep s >>= fun v14 =>
      if (v12 == v14) then
        snode_Parts s >>= fun v17 =>
        ref20_Parts s >>= fun v19 =>
        if (v17 == v19) then
          snode_Numbers s >>= fun v22 =>
          ref20_Numbers s >>= fun v24 =>
          law0_Ints v22 v24 >>= fun v26 =>
          if v26 then
            aw5 >>= fun v29 =>
            some v29
          else
            some false
        else
          some false
      else
        some false
    else
      some false
end Go.Proofs.YtmlmgbnhaenabaaGreat
