/-
  The functions as plain Lean functions.
-/
import Derived.Test.YtdhgdeelagmbpaaTy
set_option linter.unusedSimpArgs false
set_option linter.unusedVariables false
set_option maxRecDepth 100000
namespace Go.Proofs.Ytdhgdeelagmbpaa
open Go Go.Gm
def span_May (s : T.Span) (n : Int) : Option ((Bool)) :=
  if ((decide (s.frm ≥ (0 : Int))) && (decide (s.frm ≤ s.to))) then
    some (decide (s.to ≤ n))
  else
    some false
def stops_up (i : T.Inst) (k : Int) : Option ((Int)) :=
  geti i.stops.l k >>= fun x2 =>
  if ((decide (x2.up ≥ (0 : Int))) && (decide (x2.up < k))) then
    some x2.up
  else
    some ((-1) : Int)
def stops_placed_L0 : (Int × Int × T.Inst) → Option (((Bool) ⊕ (Unit)))
  | (k, u, i) =>
    if (decide (u ≥ (0 : Int))) then
      geti i.stops.l k >>= fun x3 =>
      if (x3.up == u) then
        some (.inl true)
      else
        stops_up i u >>= fun v6 =>
        stops_placed_L0 (k, v6, i)
    else
      some (.inr ())
  partial_fixpoint
def stops_placed (i : T.Inst) (k : Int) : Option ((Bool)) :=
  stops_placed_L0 (k, (IntKind.i64.wrap (k - (1 : Int))), i) >>= fun v2 =>
  match v2 with
  | .inl y3 =>
    some y3
  | .inr y4 =>
    geti i.stops.l k >>= fun x6 =>
    some (x6.up == ((-1) : Int))
def span_Within (a : T.Span) (b : T.Span) : Option ((Bool)) :=
  if (decide (a.frm ≥ b.frm)) then
    some (decide (a.to ≤ b.to))
  else
    some false
def stops_May_L0 : ((Sl T.Stop) × Int × Int × T.Inst × MapII) → Option (((Bool × MapII) ⊕ (MapII)))
  | (t18, t19, t20, i, ends) =>
    if (decide (t20 < t19)) then
      geti t18.l t20 >>= fun x3 =>
      stops_placed i t20 >>= fun v5 =>
      if ((!v5) || (decide (x3.span.frm > x3.span.to))) then
        some (.inl (false, ends))
      else
      if (decide (x3.up ≥ (0 : Int))) then
        geti i.stops.l x3.up >>= fun x10 =>
        span_Within x3.span x10.span >>= fun v12 =>
        if ((!v12) || ((mhas ends x3.up) && (decide (x3.span.frm < (mget ends x3.up))))) then
          some (.inl (false, ends))
        else
          stops_May_L0 (t18, t19, (IntKind.i64.wrap (t20 + (1 : Int))), i, (mput ends x3.up x3.span.to))
      else
        span_Within x3.span i.span >>= fun v17 =>
        if ((!v17) || ((mhas ends x3.up) && (decide (x3.span.frm < (mget ends x3.up))))) then
          some (.inl (false, ends))
        else
          stops_May_L0 (t18, t19, (IntKind.i64.wrap (t20 + (1 : Int))), i, (mput ends x3.up x3.span.to))
    else
      some (.inr ends)
  partial_fixpoint
def stops_May (i : T.Inst) (n : Int) : Option ((Bool)) :=
  span_May i.span n >>= fun v2 =>
  if (!v2) then
    some false
  else
    stops_May_L0 (i.stops, (i.stops.l.length : Int), (0 : Int), i, (⟨[], 0⟩ : MapII)) >>= fun v5 =>
    match v5 with
    | .inl y6 =>
      some y6.1
    | .inr y7 =>
      some true
def ref5_May (s : T.Span) (n : Int) : Option ((Bool)) :=
  if ((decide (s.frm ≥ (0 : Int))) && (decide (s.frm ≤ s.to))) then
    some (decide (s.to ≤ n))
  else
    some false
def ref26_In_L0 : ((Sl T.Stop) × Int × Int) → Option (((Bool) ⊕ (Unit)))
  | (l, a, b) =>
    if ((decide (a ≥ (0 : Int))) && (decide (a < (l.l.length : Int)))) then
      geti l.l a >>= fun x4 =>
      if (decide (x4.up ≥ (0 : Int))) then
        if (decide (x4.up < a)) then
          if (x4.up == b) then
            some (.inl true)
          else
            ref26_In_L0 (l, x4.up, b)
        else
          some (.inr ())
      else
        some (.inr ())
    else
      some (.inr ())
  partial_fixpoint
def ref26_In (l : (Sl T.Stop)) (a : Int) (b : Int) : Option ((Bool)) :=
  ref26_In_L0 (l, a, b) >>= fun v2 =>
  match v2 with
  | .inl y3 =>
    some y3
  | .inr y4 =>
    some false
def ref5_Within (a : T.Span) (b : T.Span) : Option ((Bool)) :=
  if (decide (a.frm ≥ b.frm)) then
    some (decide (a.to ≤ b.to))
  else
    some false
def ref26_May_L2 : (Int × Int × T.Inst × T.Stop × T.Span) → Option (((Bool) ⊕ (Unit)))
  | (k, j, i, x, b2_) =>
    if (decide (j < k)) then
      geti i.stops.l j >>= fun x3 =>
      if (x3.up == x.up) then
        if (decide (x.span.frm < x3.span.to)) then
          some (.inl false)
        else
          ref26_May_L2 (k, (IntKind.i64.wrap (j + (1 : Int))), i, x, b2_)
      else
        ref26_May_L2 (k, (IntKind.i64.wrap (j + (1 : Int))), i, x, b2_)
    else
      some (.inr ())
  partial_fixpoint
def ref26_May_L0 : (Int × T.Inst) → Option (((Bool) ⊕ (Unit)))
  | (k, i) =>
    if (decide (k < (i.stops.l.length : Int))) then
      geti i.stops.l k >>= fun x3 =>
      if (x3.up != ((-1) : Int)) then
        if ((decide (x3.up < (0 : Int))) || (decide (x3.up ≥ k))) then
          some (.inl false)
        else
        if (x3.up != (IntKind.i64.wrap (k - (1 : Int)))) then
          ref26_In i.stops (IntKind.i64.wrap (k - (1 : Int))) x3.up >>= fun v9 =>
          if (!v9) then
            some (.inl false)
          else
          if (decide (x3.up ≥ (0 : Int))) then
            geti i.stops.l x3.up >>= fun x13 =>
            if (decide (x3.span.frm > x3.span.to)) then
              some (.inl false)
            else
              ref5_Within x3.span x13.span >>= fun v16 =>
              if (!v16) then
                some (.inl false)
              else
                ref26_May_L2 (k, (0 : Int), i, x3, x13.span) >>= fun v19 =>
                match v19 with
                | .inl y20 =>
                  some (.inl y20)
                | .inr y21 =>
                  ref26_May_L0 ((IntKind.i64.wrap (k + (1 : Int))), i)
          else
          if (decide (x3.span.frm > x3.span.to)) then
            some (.inl false)
          else
            ref5_Within x3.span i.span >>= fun v24 =>
            if (!v24) then
              some (.inl false)
            else
              ref26_May_L2 (k, (0 : Int), i, x3, i.span) >>= fun v27 =>
              match v27 with
              | .inl y28 =>
                some (.inl y28)
              | .inr y29 =>
                ref26_May_L0 ((IntKind.i64.wrap (k + (1 : Int))), i)
        else
        if (decide (x3.up ≥ (0 : Int))) then
          geti i.stops.l x3.up >>= fun x32 =>
          if (decide (x3.span.frm > x3.span.to)) then
            some (.inl false)
          else
            ref5_Within x3.span x32.span >>= fun v35 =>
            if (!v35) then
              some (.inl false)
            else
              ref26_May_L2 (k, (0 : Int), i, x3, x32.span) >>= fun v38 =>
              match v38 with
              | .inl y39 =>
                some (.inl y39)
              | .inr y40 =>
                ref26_May_L0 ((IntKind.i64.wrap (k + (1 : Int))), i)
        else
        if (decide (x3.span.frm > x3.span.to)) then
          some (.inl false)
        else
          ref5_Within x3.span i.span >>= fun v43 =>
          if (!v43) then
            some (.inl false)
          else
            ref26_May_L2 (k, (0 : Int), i, x3, i.span) >>= fun v46 =>
            match v46 with
            | .inl y47 =>
              some (.inl y47)
            | .inr y48 =>
              ref26_May_L0 ((IntKind.i64.wrap (k + (1 : Int))), i)
      else
      if (decide (x3.up ≥ (0 : Int))) then
        geti i.stops.l x3.up >>= fun x51 =>
        if (decide (x3.span.frm > x3.span.to)) then
          some (.inl false)
        else
          ref5_Within x3.span x51.span >>= fun v54 =>
          if (!v54) then
            some (.inl false)
          else
            ref26_May_L2 (k, (0 : Int), i, x3, x51.span) >>= fun v57 =>
            match v57 with
            | .inl y58 =>
              some (.inl y58)
            | .inr y59 =>
              ref26_May_L0 ((IntKind.i64.wrap (k + (1 : Int))), i)
      else
      if (decide (x3.span.frm > x3.span.to)) then
        some (.inl false)
      else
        ref5_Within x3.span i.span >>= fun v62 =>
        if (!v62) then
          some (.inl false)
        else
          ref26_May_L2 (k, (0 : Int), i, x3, i.span) >>= fun v65 =>
          match v65 with
          | .inl y66 =>
            some (.inl y66)
          | .inr y67 =>
            ref26_May_L0 ((IntKind.i64.wrap (k + (1 : Int))), i)
    else
      some (.inr ())
  partial_fixpoint
def ref26_May (i : T.Inst) (n : Int) : Option ((Bool)) :=
  ref5_May i.span n >>= fun v2 =>
  if (!v2) then
    some false
  else
    ref26_May_L0 ((0 : Int), i) >>= fun v5 =>
    match v5 with
    | .inl y6 =>
      some y6
    | .inr y7 =>
      some true
def law26_StopsMay (i : T.Inst) (n : Int) : Option ((Bool)) :=
  if (decide ((i.stops.l.length : Int) > (14 : Int))) then
    aw7 >>= fun v3 =>
    some v3
  else
    stops_May i n >>= fun v5 =>
    ref26_May i n >>= fun v7 =>
    if (v5 == v7) then
      aw7 >>= fun v10 =>
      some v10
    else
      some false
end Go.Proofs.Ytdhgdeelagmbpaa
