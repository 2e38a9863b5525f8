/-
  The functions as plain Lean functions.
-/
import Derived.Test.YtmlmgbnhaenabaaTy
set_option linter.unusedSimpArgs false
set_option linter.unusedVariables false
set_option maxRecDepth 100000
namespace Go.Proofs.Ytmlmgbnhaenabaa
open Go Go.Gm
def law0_Rx_L0 : (Int × Int × T.Rx) → Option (((Int × Int) ⊕ (Int)))
  | (n, i, x) =>
    if (decide (i < (x.rows.l.length : Int))) then
      geti x.rows.l i >>= fun x3 =>
      if (decide ((x3.frm.length : Int) ≥ n)) then
        some (.inl (n, ((-1) : Int)))
      else
      if (decide ((x3.to.length : Int) ≥ n)) then
        some (.inl (n, ((-1) : Int)))
      else
        law0_Rx_L0 ((IntKind.i64.wrap ((IntKind.i64.wrap ((IntKind.i64.wrap (n - (1 : Int))) - (x3.frm.length : Int))) - (x3.to.length : Int))), (IntKind.i64.wrap (i + (1 : Int))), x)
    else
      some (.inr n)
  partial_fixpoint
mutual
def law0_Rx : (T.Rx × Int) → Option ((Int))
  | (x, n) =>
    if ((decide ((x.char.length : Int) ≥ n)) || ((decide ((x.rows.l.length : Int) ≥ n)) || (decide ((x.kids.l.length : Int) ≥ n)))) then
      some ((-1) : Int)
    else
      law0_Rx_L0 ((IntKind.i64.wrap ((IntKind.i64.wrap (n - (1 : Int))) - (x.char.length : Int))), (0 : Int), x) >>= fun v5 =>
      match v5 with
      | .inl y6 =>
        some y6.2
      | .inr y7 =>
        law0_Rx_L2 (y7, (0 : Int), x) >>= fun v9 =>
        some v9
  partial_fixpoint
def law0_Rx_L2 : (Int × Int × T.Rx) → Option ((Int))
  | (n, i, x) =>
    if ((decide (i < (x.kids.l.length : Int))) && (decide (n ≥ (0 : Int)))) then
      geti x.kids.l i >>= fun x4 =>
      law0_Rx (x4, n) >>= fun v6 =>
      law0_Rx_L2 (v6, (IntKind.i64.wrap (i + (1 : Int))), x)
    else
      some n
  partial_fixpoint
end
def law0_FmtsLeft_L0 : ((Sl T.Fmt) × Int × Int) → Option (((Int × Int) ⊕ (Int)))
  | (fs, n, i) =>
    if (decide (i < (fs.l.length : Int))) then
      geti fs.l i >>= fun x3 =>
      if (decide ((x3.thn.length : Int) ≥ n)) then
        some (.inl (n, ((-1) : Int)))
      else
      if (decide ((x3.els.length : Int) ≥ n)) then
        some (.inl (n, ((-1) : Int)))
      else
        law0_FmtsLeft_L0 (fs, (IntKind.i64.wrap ((IntKind.i64.wrap ((IntKind.i64.wrap (n - (1 : Int))) - (x3.thn.length : Int))) - (x3.els.length : Int))), (IntKind.i64.wrap (i + (1 : Int))))
    else
      some (.inr n)
  partial_fixpoint
def law0_FmtsLeft (fs : (Sl T.Fmt)) (n : Int) : Option ((Int)) :=
  law0_FmtsLeft_L0 (fs, n, (0 : Int)) >>= fun v2 =>
  match v2 with
  | .inl y3 =>
    some y3.2
  | .inr y4 =>
    some y4
def law0_Form (f : T.Form) (n : Int) : Option ((Int)) :=
  law0_Rx (f.rx, n) >>= fun v2 =>
  if (decide (v2 < (0 : Int))) then
    some v2
  else
    law0_FmtsLeft f.fmts v2 >>= fun v5 =>
    some v5
def law0_Snips_L2 : ((Sl T.Snip) × Int × Int × Int) → Option (((Int × Int) ⊕ (Int)))
  | (l, n, i, k) =>
    geti l.l i >>= fun x2 =>
    if (decide (k < (x2.opts.l.length : Int))) then
      geti x2.opts.l k >>= fun x5 =>
      if (decide ((x5.length : Int) ≥ n)) then
        some (.inl (n, ((-1) : Int)))
      else
        law0_Snips_L2 (l, (IntKind.i64.wrap ((IntKind.i64.wrap (n - (1 : Int))) - (x5.length : Int))), i, (IntKind.i64.wrap (k + (1 : Int))))
    else
      some (.inr n)
  partial_fixpoint
mutual
def law0_Snips : ((Sl T.Snip) × Int) → Option ((Int))
  | (l, n) =>
    law0_Snips_L0 (l, n, (0 : Int)) >>= fun v2 =>
    match v2 with
    | .inl y3 =>
      some y3.2
    | .inr y4 =>
      some y4
  partial_fixpoint
def law0_Snips_L0 : ((Sl T.Snip) × Int × Int) → Option (((Int × Int) ⊕ (Int)))
  | (l, n, i) =>
    if ((decide (i < (l.l.length : Int))) && (decide (n ≥ (0 : Int)))) then
      geti l.l i >>= fun x4 =>
      if (decide ((x4.text.length : Int) ≥ n)) then
        some (.inl (n, ((-1) : Int)))
      else
      if (decide ((x4.opts.l.length : Int) ≥ n)) then
        some (.inl (n, ((-1) : Int)))
      else
        law0_Form x4.form (IntKind.i64.wrap ((IntKind.i64.wrap (n - (1 : Int))) - (x4.text.length : Int))) >>= fun v8 =>
        law0_Snips_L2 (l, v8, i, (0 : Int)) >>= fun v10 =>
        match v10 with
        | .inl y11 =>
          some (.inl (y11.1, y11.2))
        | .inr y12 =>
          if (decide (y12 ≥ (0 : Int))) then
            law0_Snips (x4.kids, y12) >>= fun v15 =>
            law0_Snips_L0 (l, v15, (IntKind.i64.wrap (i + (1 : Int))))
          else
            law0_Snips_L0 (l, y12, (IntKind.i64.wrap (i + (1 : Int))))
    else
      some (.inr n)
  partial_fixpoint
end
mutual
def snode_numbers : ((Sl T.Snip) × MapII) → Option ((MapII))
  | (l, m) =>
    snode_numbers_L0 (l, (l.l.length : Int), (0 : Int), m) >>= fun v2 =>
    some v2
  partial_fixpoint
def snode_numbers_L0 : ((Sl T.Snip) × Int × Int × MapII) → Option ((MapII))
  | (t6, t7, t8, in_) =>
    if (decide (t8 < t7)) then
      geti t6.l t8 >>= fun x3 =>
      if ((x3.kind == (1 : Int)) || (x3.kind == (2 : Int))) then
        snode_numbers (x3.kids, (mput in_ x3.n (IntKind.i64.wrap ((mget in_ x3.n) + (1 : Int))))) >>= fun v6 =>
        snode_numbers_L0 (t6, t7, (IntKind.i64.wrap (t8 + (1 : Int))), v6)
      else
        snode_numbers (x3.kids, in_) >>= fun v11 =>
        snode_numbers_L0 (t6, t7, (IntKind.i64.wrap (t8 + (1 : Int))), v11)
    else
      some in_
  partial_fixpoint
end
def maps_Keys_map_int_int (m : MapII) : Option ((Unit)) :=
  some ()
def snode_Numbers (l : (Sl T.Snip)) : Option (((Sl Int))) :=
  snode_numbers (l, (⟨[], 0⟩ : MapII)) >>= fun v2 =>
  maps_Keys_map_int_int v2 >>= fun v4 =>
  sortedKeys v2 >>= fun v6 =>
  some (⟨v6.isEmpty, v6⟩ : Sl Int)
def law20_NodeNumbers_L0 : ((Sl T.Snip) × (Sl Int) × Int) → Option (((Bool) ⊕ (Unit)))
  | (s, ns, i) =>
    if (decide (i < (ns.l.length : Int))) then
      geti ns.l i >>= fun x3 =>
      geti ns.l (IntKind.i64.wrap (i - (1 : Int))) >>= fun x5 =>
      if (decide (x3 ≤ x5)) then
        some (.inl false)
      else
        law20_NodeNumbers_L0 (s, ns, (IntKind.i64.wrap (i + (1 : Int))))
    else
      some (.inr ())
  partial_fixpoint
def law20_NodeNumbers_L4 : ((Sl T.Snip) × (Sl Int) × Int × Bool × Int × (List T.Snip) × (List Bool)) → Option ((Bool × (List Bool)))
  | (s, ns, i, in_, k, row, met) =>
    if (decide (k < (ns.l.length : Int))) then
      geti ns.l k >>= fun x3 =>
      geti row i >>= fun x5 =>
      if (x3 == x5.n) then
        geti met k >>= fun x8 =>
        law20_NodeNumbers_L4 (s, ns, i, true, (IntKind.i64.wrap (k + (1 : Int))), row, (met.set k.toNat true))
      else
        law20_NodeNumbers_L4 (s, ns, i, in_, (IntKind.i64.wrap (k + (1 : Int))), row, met)
    else
      some (in_, met)
  partial_fixpoint
def law20_NodeNumbers_L2 : ((Sl T.Snip) × (Sl Int) × Int × (List T.Snip) × (List Bool)) → Option (((Bool × (List T.Snip) × (List Bool)) ⊕ ((List T.Snip) × (List Bool))))
  | (s, ns, i, row, met) =>
    if (decide (i < (row.length : Int))) then
      geti row i >>= fun x3 =>
      if roomOK (row.length + x3.kids.l.length) 224 = true then
        geti (row ++ x3.kids.l) i >>= fun x6 =>
        if (x6.kind != (1 : Int)) then
          if (x6.kind != (2 : Int)) then
            law20_NodeNumbers_L2 (s, ns, (IntKind.i64.wrap (i + (1 : Int))), (row ++ x3.kids.l), met)
          else
            law20_NodeNumbers_L4 (s, ns, i, false, (0 : Int), (row ++ x3.kids.l), met) >>= fun v10 =>
            if (!v10.1) then
              some (.inl (false, (row ++ x3.kids.l), v10.2))
            else
              law20_NodeNumbers_L2 (s, ns, (IntKind.i64.wrap (i + (1 : Int))), (row ++ x3.kids.l), v10.2)
        else
          law20_NodeNumbers_L4 (s, ns, i, false, (0 : Int), (row ++ x3.kids.l), met) >>= fun v13 =>
          if (!v13.1) then
            some (.inl (false, (row ++ x3.kids.l), v13.2))
          else
            law20_NodeNumbers_L2 (s, ns, (IntKind.i64.wrap (i + (1 : Int))), (row ++ x3.kids.l), v13.2)
      else none
    else
      some (.inr (row, met))
  partial_fixpoint
def law20_NodeNumbers_L6 : ((Sl T.Snip) × Int × (List T.Snip) × (List Bool)) → Option (((Bool) ⊕ (Unit)))
  | (s, k, row, met) =>
    if (decide (k < (met.length : Int))) then
      geti met k >>= fun x3 =>
      if (!x3) then
        some (.inl false)
      else
        law20_NodeNumbers_L6 (s, (IntKind.i64.wrap (k + (1 : Int))), row, met)
    else
      some (.inr ())
  partial_fixpoint
mutual
def snode_Parts (l : (Sl T.Snip)) : Option ((Int)) :=
    snode_Parts_L0 ((l.l.length : Int), l, (l.l.length : Int), (0 : Int)) >>= fun v2 =>
    some v2
  partial_fixpoint
def snode_Parts_L0 : (Int × (Sl T.Snip) × Int × Int) → Option ((Int))
  | (n, t8, t9, t10) =>
    if (decide (t10 < t9)) then
      geti t8.l t10 >>= fun x3 =>
      snode_Parts x3.kids >>= fun v5 =>
      snode_Parts_L0 ((IntKind.i64.wrap (n + v5)), t8, t9, (IntKind.i64.wrap (t10 + (1 : Int))))
    else
      some n
  partial_fixpoint
end
def law20_NodeNumbers (s : (Sl T.Snip)) : Option ((Bool)) :=
  law0_Snips (s, (120 : Int)) >>= fun v2 =>
  if (decide (v2 < (0 : Int))) then
    aw9 >>= fun v5 =>
    some v5
  else
    snode_Numbers s >>= fun v7 =>
    law20_NodeNumbers_L0 (s, v7, (1 : Int)) >>= fun v9 =>
    match v9 with
    | .inl y10 =>
      some y10
    | .inr y11 =>
      if roomOK (s.l.length) 224 = true then
        if 0 ≤ (v7.l.length : Int) then
          if roomOK (v7.l.length : Int).toNat 1 = true then
            law20_NodeNumbers_L2 (s, v7, (0 : Int), s.l, (List.replicate (v7.l.length : Int).toNat false)) >>= fun v16 =>
            match v16 with
            | .inl y17 =>
              some y17.1
            | .inr y18 =>
              law20_NodeNumbers_L6 (s, (0 : Int), y18.1, y18.2) >>= fun v20 =>
              match v20 with
              | .inl y21 =>
                some y21
              | .inr y22 =>
                snode_Parts s >>= fun v24 =>
                if ((y18.1.length : Int) == v24) then
                  aw9 >>= fun v27 =>
                  some v27
                else
                  some false
          else none
        else none
      else none
end Go.Proofs.Ytmlmgbnhaenabaa
