/-
  The functions as plain Lean functions.
-/
import Derived.Test.YtdhgdeelagmbpaaTy
set_option linter.unusedSimpArgs false
set_option linter.unusedVariables false
set_option maxRecDepth 100000
namespace Go.Proofs.Ytdhgdeelagmbpaa
open Go Go.Gm
def span_May (s : T.Span) (n : Int) : Option ((Bool)) :=
  if ((decide (s.frm ≥ (0 : Int))) && (decide (s.frm ≤ s.to))) then
    some (decide (s.to ≤ n))
  else
    some false
def stops_up (i : T.Inst) (k : Int) : Option ((Int)) :=
  geti i.stops.l k >>= fun x2 =>
  if ((decide (x2.up ≥ (0 : Int))) && (decide (x2.up < k))) then
    some x2.up
  else
    some ((-1) : Int)
def stops_placed_L0 : (Int × Int × T.Inst) → Option (((Bool) ⊕ (Unit)))
  | (k, u, i) =>
    if (decide (u ≥ (0 : Int))) then
      geti i.stops.l k >>= fun x3 =>
      if (x3.up == u) then
        some (.inl true)
      else
        stops_up i u >>= fun v6 =>
        stops_placed_L0 (k, v6, i)
    else
      some (.inr ())
  partial_fixpoint
def stops_placed (i : T.Inst) (k : Int) : Option ((Bool)) :=
  stops_placed_L0 (k, (IntKind.i64.wrap (k - (1 : Int))), i) >>= fun v2 =>
  match v2 with
  | .inl y3 =>
    some y3
  | .inr y4 =>
    geti i.stops.l k >>= fun x6 =>
    some (x6.up == ((-1) : Int))
def span_Within (a : T.Span) (b : T.Span) : Option ((Bool)) :=
  if (decide (a.frm ≥ b.frm)) then
    some (decide (a.to ≤ b.to))
  else
    some false
def stops_May_L0 : ((Sl T.Stop) × Int × Int × T.Inst × MapII) → Option (((Bool × MapII) ⊕ (MapII)))
  | (t18, t19, t20, i, ends) =>
    if (decide (t20 < t19)) then
      geti t18.l t20 >>= fun x3 =>
      stops_placed i t20 >>= fun v5 =>
      if ((!v5) || (decide (x3.span.frm > x3.span.to))) then
        some (.inl (false, ends))
      else
      if (decide (x3.up ≥ (0 : Int))) then
        geti i.stops.l x3.up >>= fun x10 =>
        span_Within x3.span x10.span >>= fun v12 =>
        if ((!v12) || ((mhas ends x3.up) && (decide (x3.span.frm < (mget ends x3.up))))) then
          some (.inl (false, ends))
        else
          stops_May_L0 (t18, t19, (IntKind.i64.wrap (t20 + (1 : Int))), i, (mput ends x3.up x3.span.to))
      else
        span_Within x3.span i.span >>= fun v17 =>
        if ((!v17) || ((mhas ends x3.up) && (decide (x3.span.frm < (mget ends x3.up))))) then
          some (.inl (false, ends))
        else
          stops_May_L0 (t18, t19, (IntKind.i64.wrap (t20 + (1 : Int))), i, (mput ends x3.up x3.span.to))
    else
      some (.inr ends)
  partial_fixpoint
def stops_May (i : T.Inst) (n : Int) : Option ((Bool)) :=
  span_May i.span n >>= fun v2 =>
  if (!v2) then
    some false
  else
    stops_May_L0 (i.stops, (i.stops.l.length : Int), (0 : Int), i, (⟨[], 0⟩ : MapII)) >>= fun v5 =>
    match v5 with
    | .inl y6 =>
      some y6.1
    | .inr y7 =>
      some true
def ref5_May (s : T.Span) (n : Int) : Option ((Bool)) :=
  if ((decide (s.frm ≥ (0 : Int))) && (decide (s.frm ≤ s.to))) then
    some (decide (s.to ≤ n))
  else
    some false
def ref26_In_L0 : ((Sl T.Stop) × Int × Int) → Option (((Bool) ⊕ (Unit)))
  | (l, a, b) =>
    if ((decide (a ≥ (0 : Int))) && (decide (a < (l.l.length : Int)))) then
      geti l.l a >>= fun x4 =>
      if (decide (x4.up ≥ (0 : Int))) then
        if (decide (x4.up < a)) then
          if (x4.up == b) then
            some (.inl true)
          else
            ref26_In_L0 (l, x4.up, b)
        else
          some (.inr ())
      else
        some (.inr ())
    else
      some (.inr ())
  partial_fixpoint
def ref26_In (l : (Sl T.Stop)) (a : Int) (b : Int) : Option ((Bool)) :=
  ref26_In_L0 (l, a, b) >>= fun v2 =>
  match v2 with
  | .inl y3 =>
    some y3
  | .inr y4 =>
    some false
def ref5_Within (a : T.Span) (b : T.Span) : Option ((Bool)) :=
  if (decide (a.frm ≥ b.frm)) then
    some (decide (a.to ≤ b.to))
  else
    some false
def ref26_May_L2 : (Int × Int × T.Inst × T.Stop × T.Span) → Option (((Bool) ⊕ (Unit)))
  | (k, j, i, x, b2_) =>
    if (decide (j < k)) then
      geti i.stops.l j >>= fun x3 =>
      if (x3.up == x.up) then
        if (decide (x.span.frm < x3.span.to)) then
          some (.inl false)
        else
          ref26_May_L2 (k, (IntKind.i64.wrap (j + (1 : Int))), i, x, b2_)
      else
        ref26_May_L2 (k, (IntKind.i64.wrap (j + (1 : Int))), i, x, b2_)
    else
      some (.inr ())
  partial_fixpoint
def ref26_May_L0 : (Int × T.Inst) → Option (((Bool) ⊕ (Unit)))
  | (k, i) =>
    if (decide (k < (i.stops.l.length : Int))) then
      geti i.stops.l k >>= fun x3 =>
      if (x3.up != ((-1) : Int)) then
        if ((decide (x3.up < (0 : Int))) || (decide (x3.up ≥ k))) then
          some (.inl false)
        else
        if (x3.up != (IntKind.i64.wrap (k - (1 : Int)))) then
          ref26_In i.stops (IntKind.i64.wrap (k - (1 : Int))) x3.up >>= fun v9 =>
          if (!v9) then
            some (.inl false)
          else
          if (decide (x3.up ≥ (0 : Int))) then
            geti i.stops.l x3.up >>= fun x13 =>
            if (decide (x3.span.frm > x3.span.to)) then
              some (.inl false)
            else
              ref5_Within x3.span x13.span >>= fun v16 =>
              if (!v16) then
                some (.inl false)
              else
                ref26_May_L2 (k, (0 : Int), i, x3, x13.span) >>= fun v19 =>
                match v19 with
                | .inl y20 =>
                  some (.inl y20)
                | .inr y21 =>
                  ref26_May_L0 ((IntKind.i64.wrap (k + (1 : Int))), i)
          else
          if (decide (x3.span.frm > x3.span.to)) then
            some (.inl false)
          else
            ref5_Within x3.span i.span >>= fun v24 =>
            if (!v24) then
              some (.inl false)
            else
              ref26_May_L2 (k, (0 : Int), i, x3, i.span) >>= fun v27 =>
              match v27 with
              | .inl y28 =>
                some (.inl y28)
              | .inr y29 =>
                ref26_May_L0 ((IntKind.i64.wrap (k + (1 : Int))), i)
        else
        if (decide (x3.up ≥ (0 : Int))) then
          geti i.stops.l x3.up >>= fun x32 =>
          if (decide (x3.span.frm > x3.span.to)) then
            some (.inl false)
          else
            ref5_Within x3.span x32.span >>= fun v35 =>
            if (!v35) then
              some (.inl false)
            else
              ref26_May_L2 (k, (0 : Int), i, x3, x32.span) >>= fun v38 =>
              match v38 with
              | .inl y39 =>
                some (.inl y39)
              | .inr y40 =>
                ref26_May_L0 ((IntKind.i64.wrap (k + (1 : Int))), i)
        else
        if (decide (x3.span.frm > x3.span.to)) then
          some (.inl false)
        else
          ref5_Within x3.span i.span >>= fun v43 =>
          if (!v43) then
            some (.inl false)
          else
            ref26_May_L2 (k, (0 : Int), i, x3, i.span) >>= fun v46 =>
            match v46 with
            | .inl y47 =>
              some (.inl y47)
            | .inr y48 =>
              ref26_May_L0 ((IntKind.i64.wrap (k + (1 : Int))), i)
      else
      if (decide (x3.up ≥ (0 : Int))) then
        geti i.stops.l x3.up >>= fun x51 =>
        if (decide (x3.span.frm > x3.span.to)) then
          some (.inl false)
        else
          ref5_Within x3.span x51.span >>= fun v54 =>
          if (!v54) then
            some (.inl false)
          else
            ref26_May_L2 (k, (0 : Int), i, x3, x51.span) >>= fun v57 =>
            match v57 with
            | .inl y58 =>
              some (.inl y58)
            | .inr y59 =>
              ref26_May_L0 ((IntKind.i64.wrap (k + (1 : Int))), i)
      else
      if (decide (x3.span.frm > x3.span.to)) then
        some (.inl false)
      else
        ref5_Within x3.span i.span >>= fun v62 =>
        if (!v62) then
          some (.inl false)
        else
          ref26_May_L2 (k, (0 : Int), i, x3, i.span) >>= fun v65 =>
          match v65 with
          | .inl y66 =>
            some (.inl y66)
          | .inr y67 =>
            ref26_May_L0 ((IntKind.i64.wrap (k + (1 : Int))), i)
    else
      some (.inr ())
  partial_fixpoint
def ref26_May (i : T.Inst) (n : Int) : Option ((Bool)) :=
  ref5_May i.span n >>= fun v2 =>
  if (!v2) then
    some false
  else
    ref26_May_L0 ((0 : Int), i) >>= fun v5 =>
    match v5 with
    | .inl y6 =>
      some y6
    | .inr y7 =>
      some true
def law26_StopsMay (i : T.Inst) (n : Int) : Option ((Bool)) :=
  if (decide ((i.stops.l.length : Int) > (14 : Int))) then
    aw7 >>= fun v3 =>
    some v3
  else
    stops_May i n >>= fun v5 =>
    ref26_May i n >>= fun v7 =>
    if (v5 == v7) then
      aw7 >>= fun v10 =>
      some v10
    else
      some false
def law26_much_L0 : (Int × (Sl T.Inst) × Int) → Option (((Bool) ⊕ (Unit)))
  | (n, is, i) =>
    if (decide (i < (is.l.length : Int))) then
      geti is.l i >>= fun x3 =>
      if (decide ((x3.stops.l.length : Int) > n)) then
        some (.inl true)
      else
        law26_much_L0 ((IntKind.i64.wrap (n - (x3.stops.l.length : Int))), is, (IntKind.i64.wrap (i + (1 : Int))))
    else
      some (.inr ())
  partial_fixpoint
def law26_much (n : Int) (is : (Sl T.Inst)) : Option ((Bool)) :=
  if (decide ((is.l.length : Int) > (10 : Int))) then
    some true
  else
    law26_much_L0 (n, is, (0 : Int)) >>= fun v3 =>
    match v3 with
    | .inl y4 =>
      some y4
    | .inr y5 =>
      some false
def stops_Numbers_L2 : ((Sl T.Inst) × Int × Int × (Sl T.Stop) × Int × Int × MapII × T.Inst) → Option ((MapII))
  | (t11, t12, t13, t18, t19, t20, in_, b1_) =>
    if (decide (t20 < t19)) then
      geti t18.l t20 >>= fun x3 =>
      if (!x3.turned) then
        stops_Numbers_L2 (t11, t12, t13, t18, t19, (IntKind.i64.wrap (t20 + (1 : Int))), (mput in_ x3.n (IntKind.i64.wrap ((mget in_ x3.n) + (1 : Int)))), b1_)
      else
        stops_Numbers_L2 (t11, t12, t13, t18, t19, (IntKind.i64.wrap (t20 + (1 : Int))), in_, b1_)
    else
      some in_
  partial_fixpoint
def stops_Numbers_L0 : ((Sl T.Inst) × Int × Int × MapII) → Option ((MapII))
  | (t11, t12, t13, in_) =>
    if (decide (t13 < t12)) then
      geti t11.l t13 >>= fun x3 =>
      stops_Numbers_L2 (t11, t12, t13, x3.stops, (x3.stops.l.length : Int), (0 : Int), in_, x3) >>= fun v5 =>
      stops_Numbers_L0 (t11, t12, (IntKind.i64.wrap (t13 + (1 : Int))), v5)
    else
      some in_
  partial_fixpoint
def maps_Keys_map_int_int (m : MapII) : Option ((Unit)) :=
  some ()
def stops_Numbers (is : (Sl T.Inst)) : Option (((List Int))) :=
  stops_Numbers_L0 (is, (is.l.length : Int), (0 : Int), (⟨[], 0⟩ : MapII)) >>= fun v2 =>
  maps_Keys_map_int_int (mdel v2 (0 : Int)) >>= fun v4 =>
  sortedKeys (mdel v2 (0 : Int)) >>= fun v6 =>
  if (decide ((mget v2 (0 : Int)) > (0 : Int))) then
    if roomOK (v6.length + 1) 8 = true then
      some (v6 ++ [(0 : Int)])
    else none
  else
    some v6
def stops_above (n : Int) (cur : Int) : Option ((Bool)) :=
  if (cur != (0 : Int)) then
    if (n == (0 : Int)) then
      some true
    else
      some (decide (n > cur))
  else
    some false
def stops_Next_L0 : (Int × Int × Int × (List Int)) → Option (((Int × Bool) ⊕ (Unit)))
  | (cur, t10, t11, t9) =>
    if (decide (t11 < t10)) then
      geti t9 t11 >>= fun x3 =>
      stops_above x3 cur >>= fun v5 =>
      if v5 then
        some (.inl (x3, true))
      else
        stops_Next_L0 (cur, t10, (IntKind.i64.wrap (t11 + (1 : Int))), t9)
    else
      some (.inr ())
  partial_fixpoint
def stops_Next (cur : Int) (is : (Sl T.Inst)) : Option ((Int × Bool)) :=
  stops_Numbers is >>= fun v2 =>
  stops_Next_L0 (cur, (v2.length : Int), (0 : Int), v2) >>= fun v4 =>
  match v4 with
  | .inl y5 =>
    some (y5.1, y5.2)
  | .inr y6 =>
    some ((0 : Int), false)
def ref20_Put_L0 : ((Sl Int) × Int × Int) → Option ((Int))
  | (ns, n, k) =>
    if (decide (k < (ns.l.length : Int))) then
      geti ns.l k >>= fun x3 =>
      if (decide (x3 < n)) then
        ref20_Put_L0 (ns, n, (IntKind.i64.wrap (k + (1 : Int))))
      else
        some k
    else
      some k
  partial_fixpoint
def ref20_Put (ns : (Sl Int)) (n : Int) : Option (((Sl Int))) :=
  ref20_Put_L0 (ns, n, (0 : Int)) >>= fun v2 =>
  if (decide (v2 < (ns.l.length : Int))) then
    geti ns.l v2 >>= fun x5 =>
    if (x5 == n) then
      some ns
    else
      subT ns.l v2 >>= fun r8 =>
      if roomOK (r8.length) 8 = true then
        if roomOK (r8.length + 1) 8 = true then
          subF ns.l v2 >>= fun r12 =>
          if roomOK ((r8 ++ [n]).length + r12.length) 8 = true then
            some (⟨false, ((r8 ++ [n]) ++ r12)⟩ : Sl Int)
          else none
        else none
      else none
  else
    subT ns.l v2 >>= fun r15 =>
    if roomOK (r15.length) 8 = true then
      if roomOK (r15.length + 1) 8 = true then
        subF ns.l v2 >>= fun r19 =>
        if roomOK ((r15 ++ [n]).length + r19.length) 8 = true then
          some (⟨false, ((r15 ++ [n]) ++ r19)⟩ : Sl Int)
        else none
      else none
    else none
def ref26_Numbers_L2 : ((Sl T.Inst) × (Sl Int) × Bool × Int × Int) → Option (((Sl Int) × Bool))
  | (is, ns, zero, i, k) =>
    geti is.l i >>= fun x2 =>
    if (decide (k < (x2.stops.l.length : Int))) then
      geti x2.stops.l k >>= fun x5 =>
      if (!x5.turned) then
        if (x5.n == (0 : Int)) then
          if (x5.n != (0 : Int)) then
            ref20_Put ns x5.n >>= fun v10 =>
            ref26_Numbers_L2 (is, v10, true, i, (IntKind.i64.wrap (k + (1 : Int))))
          else
            ref26_Numbers_L2 (is, ns, true, i, (IntKind.i64.wrap (k + (1 : Int))))
        else
        if (x5.n != (0 : Int)) then
          ref20_Put ns x5.n >>= fun v13 =>
          ref26_Numbers_L2 (is, v13, zero, i, (IntKind.i64.wrap (k + (1 : Int))))
        else
          ref26_Numbers_L2 (is, ns, zero, i, (IntKind.i64.wrap (k + (1 : Int))))
      else
        ref26_Numbers_L2 (is, ns, zero, i, (IntKind.i64.wrap (k + (1 : Int))))
    else
      some (ns, zero)
  partial_fixpoint
def ref26_Numbers_L0 : ((Sl T.Inst) × (Sl Int) × Bool × Int) → Option (((Sl Int) × Bool))
  | (is, ns, zero, i) =>
    if (decide (i < (is.l.length : Int))) then
      ref26_Numbers_L2 (is, ns, zero, i, (0 : Int)) >>= fun v3 =>
      ref26_Numbers_L0 (is, v3.1, v3.2, (IntKind.i64.wrap (i + (1 : Int))))
    else
      some (ns, zero)
  partial_fixpoint
def ref26_Numbers (is : (Sl T.Inst)) : Option (((Sl Int))) :=
  ref26_Numbers_L0 (is, (⟨true, ([] : List Int)⟩ : Sl Int), false, (0 : Int)) >>= fun v2 =>
  if v2.2 then
    if roomOK (v2.1.l.length) 8 = true then
      if roomOK (v2.1.l.length + 1) 8 = true then
        some (⟨false, (v2.1.l ++ [(0 : Int)])⟩ : Sl Int)
      else none
    else none
  else
    some v2.1
def ref26_above (a : Int) (b : Int) : Option ((Bool)) :=
  if (b != (0 : Int)) then
    if (a == (0 : Int)) then
      some true
    else
      some (decide (a > b))
  else
    some false
def ref26_Next_L0 : (Int × (Sl Int) × Int) → Option (((Int × Bool) ⊕ (Unit)))
  | (cur, ns, i) =>
    if (decide (i < (ns.l.length : Int))) then
      geti ns.l i >>= fun x3 =>
      ref26_above x3 cur >>= fun v5 =>
      if v5 then
        some (.inl (x3, true))
      else
        ref26_Next_L0 (cur, ns, (IntKind.i64.wrap (i + (1 : Int))))
    else
      some (.inr ())
  partial_fixpoint
def ref26_Next (cur : Int) (is : (Sl T.Inst)) : Option ((Int × Bool)) :=
  ref26_Numbers is >>= fun v2 =>
  ref26_Next_L0 (cur, v2, (0 : Int)) >>= fun v4 =>
  match v4 with
  | .inl y5 =>
    some (y5.1, y5.2)
  | .inr y6 =>
    some ((0 : Int), false)
def slices_Reverse_Lint_L0 : (Int × Int × (List Int)) → Option (((List Int)))
  | (i, j, s) =>
    if (decide (i < j)) then
      geti s j >>= fun x3 =>
      geti s i >>= fun x5 =>
      geti (s.set i.toNat x3) j >>= fun x7 =>
      slices_Reverse_Lint_L0 ((IntKind.i64.wrap (i + (1 : Int))), (IntKind.i64.wrap (j - (1 : Int))), ((s.set i.toNat x3).set j.toNat x5))
    else
      some s
  partial_fixpoint
def slices_Reverse_Lint (r_ : (List Int)) : Option (((List Int))) :=
  slices_Reverse_Lint_L0 ((0 : Int), (IntKind.i64.wrap ((r_.length : Int) - (1 : Int))), r_) >>= fun v2 =>
  some v2
def stops_Prev_L0 : (Int × Int × Int × (List Int)) → Option (((Int × Bool) ⊕ (Unit)))
  | (cur, t14, t15, t13) =>
    if (decide (t15 < t14)) then
      geti t13 t15 >>= fun x3 =>
      stops_above cur x3 >>= fun v5 =>
      if v5 then
        some (.inl (x3, true))
      else
        stops_Prev_L0 (cur, t14, (IntKind.i64.wrap (t15 + (1 : Int))), t13)
    else
      some (.inr ())
  partial_fixpoint
def stops_Prev (cur : Int) (is : (Sl T.Inst)) : Option ((Int × Bool)) :=
  stops_Numbers is >>= fun v2 =>
  slices_Reverse_Lint v2 >>= fun v4 =>
  stops_Prev_L0 (cur, (v4.length : Int), (0 : Int), v4) >>= fun v6 =>
  match v6 with
  | .inl y7 =>
    some (y7.1, y7.2)
  | .inr y8 =>
    some ((0 : Int), false)
def ref26_Prev_L0 : (Int × (Sl Int) × Int) → Option (((Int × Bool) ⊕ (Unit)))
  | (cur, ns, i) =>
    if (decide (i ≥ (0 : Int))) then
      geti ns.l i >>= fun x3 =>
      ref26_above cur x3 >>= fun v5 =>
      if v5 then
        some (.inl (x3, true))
      else
        ref26_Prev_L0 (cur, ns, (IntKind.i64.wrap (i - (1 : Int))))
    else
      some (.inr ())
  partial_fixpoint
def ref26_Prev (cur : Int) (is : (Sl T.Inst)) : Option ((Int × Bool)) :=
  ref26_Numbers is >>= fun v2 =>
  ref26_Prev_L0 (cur, v2, (IntKind.i64.wrap ((v2.l.length : Int) - (1 : Int)))) >>= fun v4 =>
  match v4 with
  | .inl y5 =>
    some (y5.1, y5.2)
  | .inr y6 =>
    some ((0 : Int), false)
def law0_Ints_L0 : ((Sl Int) × (Sl Int) × Int) → Option (((Bool) ⊕ (Unit)))
  | (a, b, i) =>
    if (decide (i < (a.l.length : Int))) then
      geti a.l i >>= fun x3 =>
      geti b.l i >>= fun x5 =>
      if (x3 != x5) then
        some (.inl false)
      else
        law0_Ints_L0 (a, b, (IntKind.i64.wrap (i + (1 : Int))))
    else
      some (.inr ())
  partial_fixpoint
def law0_Ints (a : (Sl Int)) (b : (Sl Int)) : Option ((Bool)) :=
  if ((a.l.length : Int) != (b.l.length : Int)) then
    some false
  else
    law0_Ints_L0 (a, b, (0 : Int)) >>= fun v3 =>
    match v3 with
    | .inl y4 =>
      some y4
    | .inr y5 =>
      some true
def stops_Spans_L2 : (Int × (Sl T.Inst) × Int × Int × (Sl T.Stop) × Int × Int × (List T.Span) × T.Inst) → Option (((List T.Span)))
  | (n, t10, t11, t12, t17, t18, t19, out, b1_) =>
    if (decide (t19 < t18)) then
      geti t17.l t19 >>= fun x3 =>
      if ((x3.n == n) && (!x3.turned)) then
        if roomOK (out.length + 1) 16 = true then
          stops_Spans_L2 (n, t10, t11, t12, t17, t18, (IntKind.i64.wrap (t19 + (1 : Int))), (out ++ [x3.span]), b1_)
        else none
      else
        stops_Spans_L2 (n, t10, t11, t12, t17, t18, (IntKind.i64.wrap (t19 + (1 : Int))), out, b1_)
    else
      some out
  partial_fixpoint
def stops_Spans_L0 : (Int × (Sl T.Inst) × Int × Int × (List T.Span)) → Option (((List T.Span)))
  | (n, t10, t11, t12, out) =>
    if (decide (t12 < t11)) then
      geti t10.l t12 >>= fun x3 =>
      stops_Spans_L2 (n, t10, t11, t12, x3.stops, (x3.stops.l.length : Int), (0 : Int), out, x3) >>= fun v5 =>
      stops_Spans_L0 (n, t10, t11, (IntKind.i64.wrap (t12 + (1 : Int))), v5)
    else
      some out
  partial_fixpoint
def stops_Spans (n : Int) (is : (Sl T.Inst)) : Option (((Sl T.Span))) :=
  stops_Spans_L0 (n, is, (is.l.length : Int), (0 : Int), ([] : List T.Span)) >>= fun v2 =>
  some (⟨v2.isEmpty, v2⟩ : Sl T.Span)
def ref26_Spans_L2 : (Int × (Sl T.Inst) × Int × Int × (List T.Span)) → Option (((List T.Span)))
  | (n, is, i, k, out) =>
    geti is.l i >>= fun x2 =>
    if (decide (k < (x2.stops.l.length : Int))) then
      geti x2.stops.l k >>= fun x5 =>
      if (!x5.turned) then
        if (x5.n == n) then
          if roomOK (out.length + 1) 16 = true then
            ref26_Spans_L2 (n, is, i, (IntKind.i64.wrap (k + (1 : Int))), (out ++ [x5.span]))
          else none
        else
          ref26_Spans_L2 (n, is, i, (IntKind.i64.wrap (k + (1 : Int))), out)
      else
        ref26_Spans_L2 (n, is, i, (IntKind.i64.wrap (k + (1 : Int))), out)
    else
      some out
  partial_fixpoint
def ref26_Spans_L0 : (Int × (Sl T.Inst) × Int × (List T.Span)) → Option (((List T.Span)))
  | (n, is, i, out) =>
    if (decide (i < (is.l.length : Int))) then
      ref26_Spans_L2 (n, is, i, (0 : Int), out) >>= fun v3 =>
      ref26_Spans_L0 (n, is, (IntKind.i64.wrap (i + (1 : Int))), v3)
    else
      some out
  partial_fixpoint
def ref26_Spans (n : Int) (is : (Sl T.Inst)) : Option (((Sl T.Span))) :=
  ref26_Spans_L0 (n, is, (0 : Int), ([] : List T.Span)) >>= fun v2 =>
  some (⟨v2.isEmpty, v2⟩ : Sl T.Span)
def law0_Spans_L0 : ((Sl T.Span) × (Sl T.Span) × Int) → Option (((Bool) ⊕ (Unit)))
  | (a, b, i) =>
    if (decide (i < (a.l.length : Int))) then
      geti a.l i >>= fun x3 =>
      geti b.l i >>= fun x5 =>
      if (!(x3.frm == x5.frm && (x3.to == x5.to))) then
        some (.inl false)
      else
        law0_Spans_L0 (a, b, (IntKind.i64.wrap (i + (1 : Int))))
    else
      some (.inr ())
  partial_fixpoint
def law0_Spans (a : (Sl T.Span)) (b : (Sl T.Span)) : Option ((Bool)) :=
  if ((a.l.length : Int) != (b.l.length : Int)) then
    some false
  else
    law0_Spans_L0 (a, b, (0 : Int)) >>= fun v3 =>
    match v3 with
    | .inl y4 =>
      some y4
    | .inr y5 =>
      some true
def stops_Source_L0 : (Int × (Sl Bool) × Int × Int × Int × Int × T.Inst) → Option ((Int × Int × Int))
  | (n, held, of, first, any_, k, i) =>
    if (decide (k ≥ (0 : Int))) then
      geti i.stops.l k >>= fun x3 =>
      if ((x3.n != n) || x3.turned) then
        stops_Source_L0 (n, held, of, first, any_, (IntKind.i64.wrap (k - (1 : Int))), i)
      else
      if x3.first then
        if (decide (k < (held.l.length : Int))) then
          geti held.l k >>= fun x9 =>
          if x9 then
            stops_Source_L0 (n, held, k, k, k, (IntKind.i64.wrap (k - (1 : Int))), i)
          else
            stops_Source_L0 (n, held, of, k, k, (IntKind.i64.wrap (k - (1 : Int))), i)
        else
          stops_Source_L0 (n, held, of, k, k, (IntKind.i64.wrap (k - (1 : Int))), i)
      else
      if (decide (k < (held.l.length : Int))) then
        geti held.l k >>= fun x13 =>
        if x13 then
          stops_Source_L0 (n, held, k, first, k, (IntKind.i64.wrap (k - (1 : Int))), i)
        else
          stops_Source_L0 (n, held, of, first, k, (IntKind.i64.wrap (k - (1 : Int))), i)
      else
        stops_Source_L0 (n, held, of, first, k, (IntKind.i64.wrap (k - (1 : Int))), i)
    else
      some (of, first, any_)
  partial_fixpoint
def stops_Source (i : T.Inst) (n : Int) (held : (Sl Bool)) : Option ((Int)) :=
  stops_Source_L0 (n, held, ((-1) : Int), ((-1) : Int), ((-1) : Int), (IntKind.i64.wrap ((i.stops.l.length : Int) - (1 : Int))), i) >>= fun v2 =>
  if (decide (v2.1 ≥ (0 : Int))) then
    some v2.1
  else
  if (decide (v2.2.1 ≥ (0 : Int))) then
    some v2.2.1
  else
    some v2.2.2
def ref26_Source_L0 : (Int × (Sl Bool) × Int × Int × Int × T.Inst) → Option (((Int × Int × Int) ⊕ (Int × Int)))
  | (n, held, first, any_, k, i) =>
    if (decide (k < (i.stops.l.length : Int))) then
      geti i.stops.l k >>= fun x3 =>
      if ((x3.n != n) || x3.turned) then
        ref26_Source_L0 (n, held, first, any_, (IntKind.i64.wrap (k + (1 : Int))), i)
      else
      if (decide (k < (held.l.length : Int))) then
        geti held.l k >>= fun x8 =>
        if x8 then
          some (.inl (k, first, any_))
        else
        if ((decide (first < (0 : Int))) && x3.first) then
          if (decide (any_ < (0 : Int))) then
            ref26_Source_L0 (n, held, k, k, (IntKind.i64.wrap (k + (1 : Int))), i)
          else
            ref26_Source_L0 (n, held, k, any_, (IntKind.i64.wrap (k + (1 : Int))), i)
        else
        if (decide (any_ < (0 : Int))) then
          ref26_Source_L0 (n, held, first, k, (IntKind.i64.wrap (k + (1 : Int))), i)
        else
          ref26_Source_L0 (n, held, first, any_, (IntKind.i64.wrap (k + (1 : Int))), i)
      else
      if ((decide (first < (0 : Int))) && x3.first) then
        if (decide (any_ < (0 : Int))) then
          ref26_Source_L0 (n, held, k, k, (IntKind.i64.wrap (k + (1 : Int))), i)
        else
          ref26_Source_L0 (n, held, k, any_, (IntKind.i64.wrap (k + (1 : Int))), i)
      else
      if (decide (any_ < (0 : Int))) then
        ref26_Source_L0 (n, held, first, k, (IntKind.i64.wrap (k + (1 : Int))), i)
      else
        ref26_Source_L0 (n, held, first, any_, (IntKind.i64.wrap (k + (1 : Int))), i)
    else
      some (.inr (first, any_))
  partial_fixpoint
def ref26_Source (i : T.Inst) (n : Int) (held : (Sl Bool)) : Option ((Int)) :=
  ref26_Source_L0 (n, held, ((-1) : Int), ((-1) : Int), (0 : Int), i) >>= fun v2 =>
  match v2 with
  | .inl y3 =>
    some y3.1
  | .inr y4 =>
    if (decide (y4.1 ≥ (0 : Int))) then
      some y4.1
    else
      some y4.2
def law26_StopsTell_L2 : ((Sl T.Inst) × Int × (Sl Bool) × Int × Int) → Option (((Bool) ⊕ (Unit)))
  | (is, cur, held, i, k) =>
    geti is.l i >>= fun x2 =>
    if (decide (k < (x2.stops.l.length : Int))) then
      geti x2.stops.l k >>= fun x5 =>
      stops_Source x2 x5.n held >>= fun v7 =>
      ref26_Source x2 x5.n held >>= fun v9 =>
      if (v7 != v9) then
        some (.inl false)
      else
        law26_StopsTell_L2 (is, cur, held, i, (IntKind.i64.wrap (k + (1 : Int))))
    else
      some (.inr ())
  partial_fixpoint
def law26_StopsTell_L0 : ((Sl T.Inst) × Int × (Sl Bool) × Int) → Option (((Bool) ⊕ (Unit)))
  | (is, cur, held, i) =>
    if (decide (i < (is.l.length : Int))) then
      geti is.l i >>= fun x3 =>
      stops_Source x3 cur held >>= fun v5 =>
      ref26_Source x3 cur held >>= fun v7 =>
      if (v5 != v7) then
        some (.inl false)
      else
        law26_StopsTell_L2 (is, cur, held, i, (0 : Int)) >>= fun v10 =>
        match v10 with
        | .inl y11 =>
          some (.inl y11)
        | .inr y12 =>
          law26_StopsTell_L0 (is, cur, held, (IntKind.i64.wrap (i + (1 : Int))))
    else
      some (.inr ())
  partial_fixpoint
def law26_StopsTell (is : (Sl T.Inst)) (cur : Int) (held : (Sl Bool)) : Option ((Bool)) :=
  law26_much (20 : Int) is >>= fun v2 =>
  if (v2 || (decide ((held.l.length : Int) > (30 : Int)))) then
    aw7 >>= fun v5 =>
    some v5
  else
    stops_Next cur is >>= fun v10 =>
    ref26_Next cur is >>= fun v12 =>
    stops_Prev cur is >>= fun v14 =>
    ref26_Prev cur is >>= fun v16 =>
    stops_Numbers is >>= fun v18 =>
    ref26_Numbers is >>= fun v20 =>
    law0_Ints (⟨v18.isEmpty, v18⟩ : Sl Int) v20 >>= fun v22 =>
    if (!v22) then
      some false
    else
      stops_Spans cur is >>= fun v25 =>
      ref26_Spans cur is >>= fun v27 =>
      law0_Spans v25 v27 >>= fun v29 =>
      if ((!v29) || ((v10.1 != v12.1) || ((!(v10.2 == v12.2)) || ((v14.1 != v16.1) || (!(v14.2 == v16.2)))))) then
        some false
      else
        law26_StopsTell_L0 (is, cur, held, (0 : Int)) >>= fun v36 =>
        match v36 with
        | .inl y37 =>
          some y37
        | .inr y38 =>
          aw7 >>= fun v40 =>
          some v40
def law26_StopsWalk_L0 : ((Sl T.Inst) × Int × (List Int)) → Option (((Bool) ⊕ (Unit)))
  | (is, i, ns) =>
    if (decide ((IntKind.i64.wrap (i + (1 : Int))) < (ns.length : Int))) then
      geti ns i >>= fun x3 =>
      stops_Next x3 is >>= fun v5 =>
      geti ns (IntKind.i64.wrap (i + (1 : Int))) >>= fun x7 =>
      stops_Prev x7 is >>= fun v9 =>
      if (!v5.2) then
        some (.inl false)
      else
      if ((v5.1 != x7) || (!v9.2)) then
        some (.inl false)
      else
      if (v9.1 != x3) then
        some (.inl false)
      else
      if (x3 == (0 : Int)) then
        some (.inl false)
      else
      if (x7 != (0 : Int)) then
        if (decide (x7 ≤ x3)) then
          some (.inl false)
        else
          law26_StopsWalk_L0 (is, (IntKind.i64.wrap (i + (1 : Int))), ns)
      else
        law26_StopsWalk_L0 (is, (IntKind.i64.wrap (i + (1 : Int))), ns)
    else
      some (.inr ())
  partial_fixpoint
def law26_StopsWalk_L2 : ((Sl T.Inst) × Int × Int × (List Int)) → Option ((Int))
  | (is, many, i, ns) =>
    if (decide (i < (ns.length : Int))) then
      geti ns i >>= fun x3 =>
      stops_Spans x3 is >>= fun v5 =>
      law26_StopsWalk_L2 (is, (IntKind.i64.wrap (many + (v5.l.length : Int))), (IntKind.i64.wrap (i + (1 : Int))), ns)
    else
      some many
  partial_fixpoint
def law26_StopsWalk_L6 : ((Sl T.Inst) × Int × Int × Int × (List Int)) → Option ((Int))
  | (is, many, i, k, ns) =>
    geti is.l i >>= fun x2 =>
    if (decide (k < (x2.stops.l.length : Int))) then
      geti x2.stops.l k >>= fun x5 =>
      if (!x5.turned) then
        law26_StopsWalk_L6 (is, (IntKind.i64.wrap (many - (1 : Int))), i, (IntKind.i64.wrap (k + (1 : Int))), ns)
      else
        law26_StopsWalk_L6 (is, many, i, (IntKind.i64.wrap (k + (1 : Int))), ns)
    else
      some many
  partial_fixpoint
def law26_StopsWalk_L4 : ((Sl T.Inst) × Int × Int × (List Int)) → Option ((Int))
  | (is, many, i, ns) =>
    if (decide (i < (is.l.length : Int))) then
      law26_StopsWalk_L6 (is, many, i, (0 : Int), ns) >>= fun v3 =>
      law26_StopsWalk_L4 (is, v3, (IntKind.i64.wrap (i + (1 : Int))), ns)
    else
      some many
  partial_fixpoint
def law26_StopsWalk (is : (Sl T.Inst)) : Option ((Bool)) :=
  law26_much (20 : Int) is >>= fun v2 =>
  if v2 then
    aw7 >>= fun v5 =>
    some v5
  else
    stops_Numbers is >>= fun v7 =>
    law26_StopsWalk_L0 (is, (0 : Int), v7) >>= fun v9 =>
    match v9 with
    | .inl y10 =>
      some y10
    | .inr y11 =>
      law26_StopsWalk_L2 (is, (0 : Int), (0 : Int), v7) >>= fun v13 =>
      law26_StopsWalk_L4 (is, v13, (0 : Int), v7) >>= fun v15 =>
      if ((v7.length : Int) == (0 : Int)) then
        if (v15 == (0 : Int)) then
          aw7 >>= fun v19 =>
          some v19
        else
          some false
      else
        geti v7 (IntKind.i64.wrap ((v7.length : Int) - (1 : Int))) >>= fun x21 =>
        stops_Next x21 is >>= fun v23 =>
        geti v7 (0 : Int) >>= fun x25 =>
        stops_Prev x25 is >>= fun v27 =>
        if ((!v23.2) && ((!v27.2) && (v15 == (0 : Int)))) then
          aw7 >>= fun v32 =>
          some v32
        else
          some false
end Go.Proofs.Ytdhgdeelagmbpaa
