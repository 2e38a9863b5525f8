/-
  The functions as plain Lean functions.
-/
import Derived.Test.YtdhgdeelagmbpaaTy
set_option linter.unusedSimpArgs false
set_option linter.unusedVariables false
set_option maxRecDepth 100000
namespace Go.Proofs.Ytdhgdeelagmbpaa
open Go Go.Gm
def law0_Low (x : Int) (n : Int) : Option ((Int)) :=
  if (IntKind.u64.wrap n) ≠ 0 then
    some (IntKind.i64.wrap ((IntKind.u64.wrap x).tmod (IntKind.u64.wrap n)))
  else none
def law26_StopsRings_L2 : ((Sl Int) × (Sl Int) × Int × Int × Int × Int × Int × (List T.Stop)) → Option ((Int))
  | (ups, ns, i, up, k, in_, in_2, r1_) =>
    geti ups.l i >>= fun x2 =>
    law0_Low x2 (4 : Int) >>= fun v4 =>
    if ((decide (k < v4)) && (decide (up ≥ (0 : Int)))) then
      geti r1_ up >>= fun x8 =>
      law26_StopsRings_L2 (ups, ns, i, x8.up, (IntKind.i64.wrap (k + (1 : Int))), in_, in_2, r1_)
    else
      some up
  partial_fixpoint
def law26_StopsRings_L0 : ((Sl Int) × (Sl Int) × Int × Int × Int × (List T.Stop)) → Option (((List T.Stop)))
  | (ups, ns, i, in_, in_2, r1_) =>
    if ((decide (i < (ups.l.length : Int))) && (decide (i < (ns.l.length : Int)))) then
      law26_StopsRings_L2 (ups, ns, i, (IntKind.i64.wrap (i - (1 : Int))), (0 : Int), in_, in_2, r1_) >>= fun v4 =>
      geti ns.l i >>= fun x6 =>
      law0_Low x6 (5 : Int) >>= fun v8 =>
      law0_Low x6 (7 : Int) >>= fun v10 =>
      if roomOK (r1_.length + 1) 200 = true then
        law26_StopsRings_L0 (ups, ns, (IntKind.i64.wrap (i + (1 : Int))), in_, in_2, (r1_ ++ [(T.Stop.mk (T.Span.mk in_ in_2) v8 v4 false (v10 == (6 : Int)) (T.Form.mk (T.Rx.mk (0 : Int) ([] : Bytes) false (⟨true, []⟩ : (Sl T.Row)) (0 : Int) (0 : Int) false (⟨true, []⟩ : (Sl T.Rx))) (⟨true, []⟩ : (Sl T.Fmt)) false false) (⟨true, []⟩ : (Sl Bytes)))]))
      else none
    else
      some r1_
  partial_fixpoint
def span_May (s : T.Span) (n : Int) : Option ((Bool)) :=
  if ((decide (s.frm ≥ (0 : Int))) && (decide (s.frm ≤ s.to))) then
    some (decide (s.to ≤ n))
  else
    some false
def stops_up (i : T.Inst) (k : Int) : Option ((Int)) :=
  geti i.stops.l k >>= fun x2 =>
  if ((decide (x2.up ≥ (0 : Int))) && (decide (x2.up < k))) then
    some x2.up
  else
    some ((-1) : Int)
def stops_placed_L0 : (Int × Int × T.Inst) → Option (((Bool) ⊕ (Unit)))
  | (k, u, i) =>
    if (decide (u ≥ (0 : Int))) then
      geti i.stops.l k >>= fun x3 =>
      if (x3.up == u) then
        some (.inl true)
      else
        stops_up i u >>= fun v6 =>
        stops_placed_L0 (k, v6, i)
    else
      some (.inr ())
  partial_fixpoint
def stops_placed (i : T.Inst) (k : Int) : Option ((Bool)) :=
  stops_placed_L0 (k, (IntKind.i64.wrap (k - (1 : Int))), i) >>= fun v2 =>
  match v2 with
  | .inl y3 =>
    some y3
  | .inr y4 =>
    geti i.stops.l k >>= fun x6 =>
    some (x6.up == ((-1) : Int))
def span_Within (a : T.Span) (b : T.Span) : Option ((Bool)) :=
  if (decide (a.frm ≥ b.frm)) then
    some (decide (a.to ≤ b.to))
  else
    some false
def stops_May_L0 : ((Sl T.Stop) × Int × Int × T.Inst × MapII) → Option (((Bool × MapII) ⊕ (MapII)))
  | (t18, t19, t20, i, ends) =>
    if (decide (t20 < t19)) then
      geti t18.l t20 >>= fun x3 =>
      stops_placed i t20 >>= fun v5 =>
      if ((!v5) || (decide (x3.span.frm > x3.span.to))) then
        some (.inl (false, ends))
      else
      if (decide (x3.up ≥ (0 : Int))) then
        geti i.stops.l x3.up >>= fun x10 =>
        span_Within x3.span x10.span >>= fun v12 =>
        if ((!v12) || ((mhas ends x3.up) && (decide (x3.span.frm < (mget ends x3.up))))) then
          some (.inl (false, ends))
        else
          stops_May_L0 (t18, t19, (IntKind.i64.wrap (t20 + (1 : Int))), i, (mput ends x3.up x3.span.to))
      else
        span_Within x3.span i.span >>= fun v17 =>
        if ((!v17) || ((mhas ends x3.up) && (decide (x3.span.frm < (mget ends x3.up))))) then
          some (.inl (false, ends))
        else
          stops_May_L0 (t18, t19, (IntKind.i64.wrap (t20 + (1 : Int))), i, (mput ends x3.up x3.span.to))
    else
      some (.inr ends)
  partial_fixpoint
def stops_May (i : T.Inst) (n : Int) : Option ((Bool)) :=
  span_May i.span n >>= fun v2 =>
  if (!v2) then
    some false
  else
    stops_May_L0 (i.stops, (i.stops.l.length : Int), (0 : Int), i, (⟨[], 0⟩ : MapII)) >>= fun v5 =>
    match v5 with
    | .inl y6 =>
      some y6.1
    | .inr y7 =>
      some true
def stops_Order_L0 : ((Sl T.Stop) × Int × Int × T.Inst × MapII) → Option ((MapII))
  | (t12, t13, t14, i, left) =>
    if (decide (t14 < t13)) then
      geti t12.l t14 >>= fun x3 =>
      stops_Order_L0 (t12, t13, (IntKind.i64.wrap (t14 + (1 : Int))), i, (mput left x3.n (IntKind.i64.wrap ((mget left x3.n) + (1 : Int)))))
    else
      some left
  partial_fixpoint
def maps_Keys_map_int_int (m : MapII) : Option ((Unit)) :=
  some ()
def stops_waits_L2 : (Int × (Sl T.Stop) × Int × Int × MapII × T.Inst × MapII × T.Stop) → Option ((MapII))
  | (u, t12, t13, t14, left, i, out, s) =>
    if (decide (u ≥ (0 : Int))) then
      geti i.stops.l u >>= fun x3 =>
      if (x3.n != s.n) then
        stops_up i u >>= fun v6 =>
        stops_waits_L2 (v6, t12, t13, t14, left, i, (mput out x3.n (IntKind.i64.wrap ((mget out x3.n) + (1 : Int)))), s)
      else
        stops_up i u >>= fun v8 =>
        stops_waits_L2 (v8, t12, t13, t14, left, i, out, s)
    else
      some out
  partial_fixpoint
def stops_waits_L0 : ((Sl T.Stop) × Int × Int × MapII × T.Inst × MapII) → Option ((MapII))
  | (t12, t13, t14, left, i, out) =>
    if (decide (t14 < t13)) then
      geti t12.l t14 >>= fun x3 =>
      if ((mget left x3.n) == (0 : Int)) then
        stops_waits_L0 (t12, t13, (IntKind.i64.wrap (t14 + (1 : Int))), left, i, out)
      else
        stops_up i t14 >>= fun v6 =>
        stops_waits_L2 (v6, t12, t13, t14, left, i, out, x3) >>= fun v8 =>
        stops_waits_L0 (t12, t13, (IntKind.i64.wrap (t14 + (1 : Int))), left, i, v8)
    else
      some out
  partial_fixpoint
def stops_waits (i : T.Inst) (m : MapII) : Option ((MapII)) :=
  stops_waits_L0 (i.stops, (i.stops.l.length : Int), (0 : Int), m, i, (⟨[], 0⟩ : MapII)) >>= fun v2 =>
  some v2
def stops_Order_1 (n : Int) (m : MapII) : Option ((Bool)) :=
  some ((mget m n) == (0 : Int))
def slices_IndexFunc_Lint_stops_Order_1_L0 : ((Sl Int) × Int × Int × MapII) → Option (((Int) ⊕ (Unit)))
  | (s, t7, t8, m1) =>
    if (decide (t8 < t7)) then
      geti s.l t8 >>= fun x3 =>
      stops_Order_1 x3 m1 >>= fun v5 =>
      if v5 then
        some (.inl t8)
      else
        slices_IndexFunc_Lint_stops_Order_1_L0 (s, t7, (IntKind.i64.wrap (t8 + (1 : Int))), m1)
    else
      some (.inr ())
  partial_fixpoint
def slices_IndexFunc_Lint_stops_Order_1 (s : (Sl Int)) (m : MapII) : Option ((Int)) :=
  slices_IndexFunc_Lint_stops_Order_1_L0 (s, (s.l.length : Int), (0 : Int), m) >>= fun v2 =>
  match v2 with
  | .inl y3 =>
    some y3
  | .inr y4 =>
    some ((-1) : Int)
def stops_Order_L2 : (T.Inst × MapII × (List Int)) → Option ((MapII × (List Int)))
  | (i, left, out) =>
    if (decide ((left.es.length : Int) > (0 : Int))) then
      maps_Keys_map_int_int left >>= fun v3 =>
      sortedKeys left >>= fun v5 =>
      stops_waits i left >>= fun v7 =>
      slices_IndexFunc_Lint_stops_Order_1 (⟨v5.isEmpty, v5⟩ : Sl Int) v7 >>= fun v9 =>
      geti v5 (if v9 > (0 : Int) then v9 else (0 : Int)) >>= fun x11 =>
      if roomOK (out.length + 1) 8 = true then
        stops_Order_L2 (i, (mdel left x11), (out ++ [x11]))
      else none
    else
      some (left, out)
  partial_fixpoint
def stops_Order (i : T.Inst) : Option (((Sl Int))) :=
  stops_Order_L0 (i.stops, (i.stops.l.length : Int), (0 : Int), i, (⟨[], 0⟩ : MapII)) >>= fun v2 =>
  stops_Order_L2 (i, v2, ([] : List Int)) >>= fun v4 =>
  some (⟨v4.2.isEmpty, v4.2⟩ : Sl Int)
def ref20_Put_L0 : ((Sl Int) × Int × Int) → Option ((Int))
  | (ns, n, k) =>
    if (decide (k < (ns.l.length : Int))) then
      geti ns.l k >>= fun x3 =>
      if (decide (x3 < n)) then
        ref20_Put_L0 (ns, n, (IntKind.i64.wrap (k + (1 : Int))))
      else
        some k
    else
      some k
  partial_fixpoint
def ref20_Put (ns : (Sl Int)) (n : Int) : Option (((Sl Int))) :=
  ref20_Put_L0 (ns, n, (0 : Int)) >>= fun v2 =>
  if (decide (v2 < (ns.l.length : Int))) then
    geti ns.l v2 >>= fun x5 =>
    if (x5 == n) then
      some ns
    else
      subT ns.l v2 >>= fun r8 =>
      if roomOK (r8.length) 8 = true then
        if roomOK (r8.length + 1) 8 = true then
          subF ns.l v2 >>= fun r12 =>
          if roomOK ((r8 ++ [n]).length + r12.length) 8 = true then
            some (⟨false, ((r8 ++ [n]) ++ r12)⟩ : Sl Int)
          else none
        else none
      else none
  else
    subT ns.l v2 >>= fun r15 =>
    if roomOK (r15.length) 8 = true then
      if roomOK (r15.length + 1) 8 = true then
        subF ns.l v2 >>= fun r19 =>
        if roomOK ((r15 ++ [n]).length + r19.length) 8 = true then
          some (⟨false, ((r15 ++ [n]) ++ r19)⟩ : Sl Int)
        else none
      else none
    else none
def ref26_Order_L0 : ((Sl Int) × Int × T.Inst) → Option (((Sl Int)))
  | (all_, k, i) =>
    if (decide (k < (i.stops.l.length : Int))) then
      geti i.stops.l k >>= fun x3 =>
      ref20_Put all_ x3.n >>= fun v5 =>
      ref26_Order_L0 (v5, (IntKind.i64.wrap (k + (1 : Int))), i)
    else
      some all_
  partial_fixpoint
def ref26_among_L0 : (Int × Int × (List Int)) → Option (((Bool) ⊕ (Unit)))
  | (n, i, l) =>
    if (decide (i < (l.length : Int))) then
      geti l i >>= fun x3 =>
      if (x3 == n) then
        some (.inl true)
      else
        ref26_among_L0 (n, (IntKind.i64.wrap (i + (1 : Int))), l)
    else
      some (.inr ())
  partial_fixpoint
def ref26_among (n : Int) (r_ : (List Int)) : Option ((Bool)) :=
  ref26_among_L0 (n, (0 : Int), r_) >>= fun v2 =>
  match v2 with
  | .inl y3 =>
    some y3
  | .inr y4 =>
    some false
def ref26_In_L0 : ((Sl T.Stop) × Int × Int) → Option (((Bool) ⊕ (Unit)))
  | (l, a, b) =>
    if ((decide (a ≥ (0 : Int))) && (decide (a < (l.l.length : Int)))) then
      geti l.l a >>= fun x4 =>
      if (decide (x4.up ≥ (0 : Int))) then
        if (decide (x4.up < a)) then
          if (x4.up == b) then
            some (.inl true)
          else
            ref26_In_L0 (l, x4.up, b)
        else
          some (.inr ())
      else
        some (.inr ())
    else
      some (.inr ())
  partial_fixpoint
def ref26_In (l : (Sl T.Stop)) (a : Int) (b : Int) : Option ((Bool)) :=
  ref26_In_L0 (l, a, b) >>= fun v2 =>
  match v2 with
  | .inl y3 =>
    some y3
  | .inr y4 =>
    some false
def ref26_free_L2 : ((Sl T.Stop) × Int × Int × Int × (List Int)) → Option (((Bool) ⊕ (Unit)))
  | (l, n, a, b, told) =>
    if (decide (b < (l.l.length : Int))) then
      geti l.l b >>= fun x3 =>
      if (x3.n == n) then
        ref26_In l a b >>= fun v6 =>
        if v6 then
          some (.inl false)
        else
          ref26_free_L2 (l, n, a, (IntKind.i64.wrap (b + (1 : Int))), told)
      else
        ref26_free_L2 (l, n, a, (IntKind.i64.wrap (b + (1 : Int))), told)
    else
      some (.inr ())
  partial_fixpoint
def ref26_free_L0 : ((Sl T.Stop) × Int × Int × (List Int)) → Option (((Bool) ⊕ (Unit)))
  | (l, n, a, told) =>
    if (decide (a < (l.l.length : Int))) then
      geti l.l a >>= fun x3 =>
      if (x3.n == n) then
        ref26_free_L0 (l, n, (IntKind.i64.wrap (a + (1 : Int))), told)
      else
        ref26_among x3.n told >>= fun v6 =>
        if v6 then
          ref26_free_L0 (l, n, (IntKind.i64.wrap (a + (1 : Int))), told)
        else
          ref26_free_L2 (l, n, a, (0 : Int), told) >>= fun v9 =>
          match v9 with
          | .inl y10 =>
            some (.inl y10)
          | .inr y11 =>
            ref26_free_L0 (l, n, (IntKind.i64.wrap (a + (1 : Int))), told)
    else
      some (.inr ())
  partial_fixpoint
def ref26_free (l : (Sl T.Stop)) (n : Int) (r_ : (List Int)) : Option ((Bool)) :=
  ref26_free_L0 (l, n, (0 : Int), r_) >>= fun v2 =>
  match v2 with
  | .inl y3 =>
    some y3
  | .inr y4 =>
    some true
def ref26_Order_L4 : ((Sl Int) × Int × Bool × Int × T.Inst × (List Int)) → Option ((Int × Bool))
  | (all_, next, found, k, i, told) =>
    if ((decide (k < (all_.l.length : Int))) && (!found)) then
      geti all_.l k >>= fun x4 =>
      ref26_among x4 told >>= fun v6 =>
      if (!v6) then
        ref26_free i.stops x4 told >>= fun v9 =>
        if v9 then
          ref26_Order_L4 (all_, x4, true, (IntKind.i64.wrap (k + (1 : Int))), i, told)
        else
          ref26_Order_L4 (all_, next, found, (IntKind.i64.wrap (k + (1 : Int))), i, told)
      else
        ref26_Order_L4 (all_, next, found, (IntKind.i64.wrap (k + (1 : Int))), i, told)
    else
      some (next, found)
  partial_fixpoint
def ref26_Order_L6 : ((Sl Int) × Int × Bool × Int × T.Inst × (List Int)) → Option ((Int))
  | (all_, next, found, k, i, told) =>
    if ((decide (k < (all_.l.length : Int))) && (!found)) then
      geti all_.l k >>= fun x4 =>
      ref26_among x4 told >>= fun v6 =>
      if (!v6) then
        ref26_Order_L6 (all_, x4, true, (IntKind.i64.wrap (k + (1 : Int))), i, told)
      else
        ref26_Order_L6 (all_, next, found, (IntKind.i64.wrap (k + (1 : Int))), i, told)
    else
      some next
  partial_fixpoint
def ref26_Order_L2 : ((Sl Int) × T.Inst × (List Int)) → Option (((List Int)))
  | (all_, i, told) =>
    if (decide ((told.length : Int) < (all_.l.length : Int))) then
      ref26_Order_L4 (all_, (0 : Int), false, (0 : Int), i, told) >>= fun v3 =>
      ref26_Order_L6 (all_, v3.1, v3.2, (0 : Int), i, told) >>= fun v5 =>
      if roomOK (told.length + 1) 8 = true then
        ref26_Order_L2 (all_, i, (told ++ [v5]))
      else none
    else
      some told
  partial_fixpoint
def ref26_Order (i : T.Inst) : Option (((Sl Int))) :=
  ref26_Order_L0 ((⟨true, ([] : List Int)⟩ : Sl Int), (0 : Int), i) >>= fun v2 =>
  ref26_Order_L2 (v2, i, ([] : List Int)) >>= fun v4 =>
  some (⟨v4.isEmpty, v4⟩ : Sl Int)
def law0_Ints_L0 : ((Sl Int) × (Sl Int) × Int) → Option (((Bool) ⊕ (Unit)))
  | (a, b, i) =>
    if (decide (i < (a.l.length : Int))) then
      geti a.l i >>= fun x3 =>
      geti b.l i >>= fun x5 =>
      if (x3 != x5) then
        some (.inl false)
      else
        law0_Ints_L0 (a, b, (IntKind.i64.wrap (i + (1 : Int))))
    else
      some (.inr ())
  partial_fixpoint
def law0_Ints (a : (Sl Int)) (b : (Sl Int)) : Option ((Bool)) :=
  if ((a.l.length : Int) != (b.l.length : Int)) then
    some false
  else
    law0_Ints_L0 (a, b, (0 : Int)) >>= fun v3 =>
    match v3 with
    | .inl y4 =>
      some y4
    | .inr y5 =>
      some true
def law26_StopsRings (ups : (Sl Int)) (ns : (Sl Int)) : Option ((Bool)) :=
  if (decide ((ups.l.length : Int) > (12 : Int))) then
    aw7 >>= fun v3 =>
    some v3
  else
    law26_StopsRings_L0 (ups, ns, (0 : Int), (1 : Int), (1 : Int), ([] : List T.Stop)) >>= fun v5 =>
    stops_May (T.Inst.mk (T.Span.mk (1 : Int) (1 : Int)) (⟨v5.isEmpty, v5⟩ : (Sl T.Stop))) (1 : Int) >>= fun v7 =>
    if v7 then
      stops_Order (T.Inst.mk (T.Span.mk (1 : Int) (1 : Int)) (⟨v5.isEmpty, v5⟩ : (Sl T.Stop))) >>= fun v10 =>
      ref26_Order (T.Inst.mk (T.Span.mk (1 : Int) (1 : Int)) (⟨v5.isEmpty, v5⟩ : (Sl T.Stop))) >>= fun v12 =>
      law0_Ints v10 v12 >>= fun v14 =>
      if v14 then
        aw7 >>= fun v17 =>
        some v17
      else
        some false
    else
      some false
end Go.Proofs.Ytdhgdeelagmbpaa
