/-
  Spans, sources, comparisons: the program's and the document's.
-/
import Derived.Test.YtdhgdeelagmbpaaStTell
set_option linter.unusedSimpArgs false
set_option linter.unusedVariables false
namespace Go.Proofs.Ytdhgdeelagmbpaa
open Go Go.Gm

def spOf (n : Int) (l : List T.Stop) : List T.Span := (l.filter (fun x => x.n == n && !x.turned)).map (·.span)
def spAll (n : Int) (l : List T.Inst) : List T.Span := l.flatMap fun i => spOf n i.stops.l

theorem spOf_len (n : Int) (l : List T.Stop) : (spOf n l).length ≤ l.length := by
  unfold spOf
  rw [List.length_map]
  exact List.length_filter_le _ _

theorem spans_L2 (n : Int) (t10 : Sl T.Inst) (t11 t12 : Int) (s : Sl T.Stop) (b : T.Inst) (hl : s.l.length < 2 ^ 60) : ∀ (d k : Nat) (out : List T.Span), k + d = s.l.length → out.length + d ≤ 1000000 →
    stops_Spans_L2 (n, t10, t11, t12, s, (s.l.length : Int), (k : Int), out, b) = some (out ++ spOf n (s.l.drop k)) := by
  intro d
  induction d with
  | zero =>
    intro k out hk ho
    have h2 : s.l.drop k = [] := by simp; omega
    rw [stops_Spans_L2.eq_1, h2, if_neg (by simp; omega)]
    simp [spOf]
  | succ d ih =>
    intro k out hk ho
    have hkl : k < s.l.length := by omega
    have hx := geti_some hkl
    have hd := List.drop_eq_getElem_cons hkl
    generalize s.l[k] = x at hx hd
    have hw : IntKind.i64.wrap ((k : Int) + 1) = ((k + 1 : Nat) : Int) := wrap_succ (by omega)
    rw [stops_Spans_L2.eq_1, hd, if_pos (by simpa using hkl)]
    simp only [hx, Option.bind_eq_bind, Option.bind_some, hw]
    cases hq : (x.n == n && !x.turned) with
    | true =>
      rw [if_pos rfl, if_pos (room_ok (by omega) (by omega)), ih (k + 1) _ (by omega) (by simp; omega)]
      simp [spOf, hq]
    | false =>
      rw [if_neg (by simp), ih (k + 1) _ (by omega) (by omega)]
      simp [spOf, hq]

theorem spans_L0 (n : Int) (is : Sl T.Inst) (hl : is.l.length < 2 ^ 60) : ∀ (d k : Nat) (out : List T.Span), k + d = is.l.length → out.length + many (is.l.drop k) ≤ 1000000 →
    stops_Spans_L0 (n, is, (is.l.length : Int), (k : Int), out) = some (out ++ spAll n (is.l.drop k)) := by
  intro d
  induction d with
  | zero =>
    intro k out hk ho
    have h2 : is.l.drop k = [] := by simp; omega
    rw [stops_Spans_L0.eq_1, h2, if_neg (by simp; omega)]
    simp [spAll]
  | succ d ih =>
    intro k out hk ho
    have hkl : k < is.l.length := by omega
    have hx := geti_some hkl
    have hd := List.drop_eq_getElem_cons hkl
    generalize is.l[k] = x at hx hd
    rw [hd] at ho ⊢
    simp only [many, List.map_cons, List.sum_cons] at ho
    have hw : IntKind.i64.wrap ((k : Int) + 1) = ((k + 1 : Nat) : Int) := wrap_succ (by omega)
    have h2 := spans_L2 n is (is.l.length : Int) (k : Int) x.stops x (by omega) x.stops.l.length 0 out (by omega) (by omega)
    simp only [Int.natCast_zero, List.drop_zero] at h2
    have hs := spOf_len n x.stops.l
    rw [stops_Spans_L0.eq_1, if_pos (by simpa using hkl)]
    simp only [hx, Option.bind_eq_bind, Option.bind_some, hw, h2]
    rw [ih (k + 1) _ (by omega) (by simp only [List.length_append, many]; omega)]
    simp [spAll]

theorem spans_eq (n : Int) (is : Sl T.Inst) (hl : is.l.length < 2 ^ 60) (hm : many is.l ≤ 1000) : stops_Spans n is = some ⟨(spAll n is.l).isEmpty, spAll n is.l⟩ := by
  have := spans_L0 n is hl is.l.length 0 [] (by omega) (by simp; omega)
  simp only [Int.natCast_zero, List.drop_zero, List.nil_append] at this
  unfold stops_Spans
  rw [this]
  rfl

theorem refspans_L2 (n : Int) (is : Sl T.Inst) (i : Nat) (x : T.Inst) (hx : geti is.l i = some x) (hl : x.stops.l.length < 2 ^ 60) : ∀ (d k : Nat) (out : List T.Span), k + d = x.stops.l.length → out.length + d ≤ 1000000 →
    ref26_Spans_L2 (n, is, (i : Int), (k : Int), out) = some (out ++ spOf n (x.stops.l.drop k)) := by
  intro d
  induction d with
  | zero =>
    intro k out hk ho
    have h2 : x.stops.l.drop k = [] := by simp; omega
    rw [ref26_Spans_L2.eq_1, h2]
    simp only [hx, Option.bind_eq_bind, Option.bind_some]
    rw [if_neg (by simp; omega)]
    simp [spOf]
  | succ d ih =>
    intro k out hk ho
    have hkl : k < x.stops.l.length := by omega
    have hy := geti_some hkl
    have hd := List.drop_eq_getElem_cons hkl
    generalize x.stops.l[k] = y at hy hd
    have hw : IntKind.i64.wrap ((k : Int) + 1) = ((k + 1 : Nat) : Int) := wrap_succ (by omega)
    rw [ref26_Spans_L2.eq_1, hd]
    simp only [hx, hy, Option.bind_eq_bind, Option.bind_some, hw]
    rw [if_pos (by simpa using hkl)]
    cases ht : y.turned with
    | true => rw [if_neg (by simp), ih (k + 1) _ (by omega) (by omega)]; simp [spOf, ht]
    | false =>
      rw [if_pos (by simp)]
      cases hn : (y.n == n) with
      | true => rw [if_pos rfl, if_pos (room_ok (by omega) (by omega)), ih (k + 1) _ (by omega) (by simp; omega)]; simp [spOf, ht, hn]
      | false => rw [if_neg (by simp), ih (k + 1) _ (by omega) (by omega)]; simp [spOf, ht, hn]

theorem refspans_L0 (n : Int) (is : Sl T.Inst) (hl : is.l.length < 2 ^ 60) : ∀ (d k : Nat) (out : List T.Span), k + d = is.l.length → out.length + many (is.l.drop k) ≤ 1000000 →
    ref26_Spans_L0 (n, is, (k : Int), out) = some (out ++ spAll n (is.l.drop k)) := by
  intro d
  induction d with
  | zero =>
    intro k out hk ho
    have h2 : is.l.drop k = [] := by simp; omega
    rw [ref26_Spans_L0.eq_1, h2, if_neg (by simp; omega)]
    simp [spAll]
  | succ d ih =>
    intro k out hk ho
    have hkl : k < is.l.length := by omega
    have hx := geti_some hkl
    have hd := List.drop_eq_getElem_cons hkl
    generalize is.l[k] = x at hx hd
    rw [hd] at ho ⊢
    simp only [many, List.map_cons, List.sum_cons] at ho
    have hw : IntKind.i64.wrap ((k : Int) + 1) = ((k + 1 : Nat) : Int) := wrap_succ (by omega)
    have h2 := refspans_L2 n is k x hx (by omega) x.stops.l.length 0 out (by omega) (by omega)
    simp only [Int.natCast_zero, List.drop_zero] at h2
    have hs := spOf_len n x.stops.l
    rw [ref26_Spans_L0.eq_1, if_pos (by simpa using hkl)]
    simp only [Option.bind_eq_bind, Option.bind_some, hw, h2]
    rw [ih (k + 1) _ (by omega) (by simp only [List.length_append, many]; omega)]
    simp [spAll]

theorem refspans_eq (n : Int) (is : Sl T.Inst) (hl : is.l.length < 2 ^ 60) (hm : many is.l ≤ 1000) : ref26_Spans n is = some ⟨(spAll n is.l).isEmpty, spAll n is.l⟩ := by
  have := refspans_L0 n is hl is.l.length 0 [] (by omega) (by simp; omega)
  simp only [Int.natCast_zero, List.drop_zero, List.nil_append] at this
  unfold ref26_Spans
  rw [this]
  rfl

/-! Sources. -/
def fst (p : Nat → Bool) (k : Nat) : Option Nat := (List.range k).find? p
def encN : Option Nat → Int | some j => j | none => -1
theorem fst_succ (p : Nat → Bool) (k : Nat) : fst p (k + 1) = match fst p k with | some j => some j | none => if p k then some k else none := by
  unfold fst
  rw [List.range_succ, List.find?_append]
  cases (List.range k).find? p with
  | some j => rfl
  | none => cases h : p k <;> simp [h]

def pm (i : T.Inst) (n : Int) (j : Nat) : Bool := match i.stops.l[j]? with | some x => x.n == n && !x.turned | none => false
def pf (i : T.Inst) (n : Int) (j : Nat) : Bool := match i.stops.l[j]? with | some x => x.n == n && !x.turned && x.first | none => false
def ph (i : T.Inst) (n : Int) (held : Sl Bool) (j : Nat) : Bool := match i.stops.l[j]?, held.l[j]? with | some x, some h => x.n == n && !x.turned && h | _, _ => false

def orI (o : Option Nat) (d : Int) : Int := match o with | some j => j | none => d

theorem src_L0 (i : T.Inst) (n : Int) (held : Sl Bool) (hl : i.stops.l.length < 2 ^ 60) : ∀ (k : Nat) (of first any_ : Int), k ≤ i.stops.l.length →
    stops_Source_L0 (n, held, of, first, any_, (k : Int) - 1, i) = some (orI (fst (ph i n held) k) of, orI (fst (pf i n) k) first, orI (fst (pm i n) k) any_) := by
  intro k
  induction k with
  | zero =>
    intro of first any_ _
    rw [stops_Source_L0.eq_1, if_neg (by simp)]
    rfl
  | succ k ih =>
    intro of first any_ hk
    have hkl : k < i.stops.l.length := by omega
    have hx := geti_some hkl
    have hx' : i.stops.l[k]? = some i.stops.l[k] := by simp [hkl]
    generalize i.stops.l[k] = x at hx hx'
    have e : ((k + 1 : Nat) : Int) - 1 = (k : Int) := by omega
    have hw : IntKind.i64.wrap ((k : Int) - 1) = (k : Int) - 1 := wrap_in (by omega) (by omega)
    have f1 : ∀ (p : Nat → Bool) (d : Int), orI (fst p (k + 1)) d = orI (fst p k) (if p k then (k : Int) else d) := by
      intro p d
      rw [fst_succ]
      cases fst p k with
      | some j => rfl
      | none => cases p k <;> rfl
    rw [e, stops_Source_L0.eq_1, if_pos (by simp), f1, f1, f1]
    simp only [hx, Option.bind_eq_bind, Option.bind_some, hw]
    by_cases hm : ((x.n != n) || x.turned) = true
    · have hm2 : (x.n == n && !x.turned) = false := by
        simp only [Bool.or_eq_true, bne_iff_ne, ne_eq] at hm
        rcases hm with h | h
        · have : (x.n == n) = false := by simpa using h
          simp [this]
        · simp [h]
      have p1 : pm i n k = false := by simp [pm, hx', hm2]
      have p2 : pf i n k = false := by simp only [pf, hx', hm2]; rfl
      have p3 : ph i n held k = false := by unfold ph; rw [hx']; cases held.l[k]? <;> simp [hm2]
      rw [if_pos hm, ih _ _ _ (by omega), p1, p2, p3]
      rfl
    · have hm2 : (x.n == n && !x.turned) = true := by
        simp only [Bool.or_eq_true, bne_iff_ne, ne_eq, not_or, Classical.not_not] at hm
        simp [hm.1]
        exact Bool.eq_false_iff.2 hm.2
      have p1 : pm i n k = true := by simp [pm, hx', hm2]
      have p2 : pf i n k = x.first := by simp only [pf, hx', hm2, Bool.true_and]
      have p3 : ph i n held k = (match held.l[k]? with | some h => h | none => false) := by unfold ph; rw [hx']; cases held.l[k]? <;> simp [hm2]
      rw [if_neg hm, p1, p2, p3]
      by_cases hh : k < held.l.length
      · have hg := geti_some hh
        have hg' : held.l[k]? = some held.l[k] := by simp [hh]
        generalize held.l[k] = h at hg hg'
        simp only [hg, hg', Option.bind_some]
        cases hf : x.first <;> cases h <;> simp [hh, ih _ _ _ (by omega : k ≤ i.stops.l.length)]
      · have hg' : held.l[k]? = none := by simp; omega
        cases hf : x.first <;> simp [hh, hg', ih _ _ _ (by omega : k ≤ i.stops.l.length)]

def srcOf (i : T.Inst) (n : Int) (held : Sl Bool) : Int :=
  match fst (ph i n held) i.stops.l.length with
  | some j => j
  | none => match fst (pf i n) i.stops.l.length with
    | some j => j
    | none => encN (fst (pm i n) i.stops.l.length)

theorem src_eq (i : T.Inst) (n : Int) (held : Sl Bool) (hl : i.stops.l.length < 2 ^ 60) : stops_Source i n held = some (srcOf i n held) := by
  have h := src_L0 i n held hl i.stops.l.length (-1) (-1) (-1) (Nat.le_refl _)
  have hw : IntKind.i64.wrap ((i.stops.l.length : Int) - 1) = (i.stops.l.length : Int) - 1 := wrap_in (by omega) (by omega)
  unfold stops_Source srcOf
  simp only [hw, h, Option.bind_eq_bind, Option.bind_some]
  cases fst (ph i n held) i.stops.l.length with
  | some j => simp [orI]
  | none =>
    cases fst (pf i n) i.stops.l.length with
    | some j => simp [orI]
    | none => cases fst (pm i n) i.stops.l.length <;> simp [orI, encN]

theorem refsrc_L0 (i : T.Inst) (n : Int) (held : Sl Bool) (hl : i.stops.l.length < 2 ^ 60) : ∀ (d k : Nat), k + d = i.stops.l.length → fst (ph i n held) k = none →
    ∃ a b, ref26_Source_L0 (n, held, encN (fst (pf i n) k), encN (fst (pm i n) k), (k : Int), i) =
      some (match fst (ph i n held) i.stops.l.length with | some j => .inl ((j : Int), a, b) | none => .inr (encN (fst (pf i n) i.stops.l.length), encN (fst (pm i n) i.stops.l.length))) := by
  intro d
  induction d with
  | zero =>
    intro k hk hp
    obtain rfl : k = i.stops.l.length := by omega
    refine ⟨0, 0, ?_⟩
    rw [ref26_Source_L0.eq_1, if_neg (by simp), hp]
  | succ d ih =>
    intro k hk hp
    have hkl : k < i.stops.l.length := by omega
    have hx := geti_some hkl
    have hx' : i.stops.l[k]? = some i.stops.l[k] := by simp [hkl]
    generalize i.stops.l[k] = x at hx hx'
    have hw : IntKind.i64.wrap ((k : Int) + 1) = ((k + 1 : Nat) : Int) := wrap_succ (by omega)
    have g1 := fst_succ (pf i n) k
    have g2 := fst_succ (pm i n) k
    have g3 := fst_succ (ph i n held) k
    rw [hp] at g3
    simp only at g3
    rw [ref26_Source_L0.eq_1, if_pos (by simpa using hkl)]
    simp only [hx, Option.bind_eq_bind, Option.bind_some, hw]
    have neg : ∀ o : Option Nat, decide (encN o < 0) = o.isNone := by intro o; cases o with | none => rfl | some j => exact decide_eq_false (by show ¬ ((j : Int) < 0); omega)
    by_cases hm : ((x.n != n) || x.turned) = true
    · have hm2 : (x.n == n && !x.turned) = false := by
        simp only [Bool.or_eq_true, bne_iff_ne, ne_eq] at hm
        rcases hm with h | h
        · have : (x.n == n) = false := by simpa using h
          simp [this]
        · simp [h]
      have p1 : pm i n k = false := by simp [pm, hx', hm2]
      have p2 : pf i n k = false := by simp only [pf, hx', hm2]; rfl
      have p3 : ph i n held k = false := by unfold ph; rw [hx']; cases held.l[k]? <;> simp [hm2]
      have e1 : fst (pf i n) (k + 1) = fst (pf i n) k := by rw [g1, p2]; cases fst (pf i n) k <;> rfl
      have e2 : fst (pm i n) (k + 1) = fst (pm i n) k := by rw [g2, p1]; cases fst (pm i n) k <;> rfl
      have e3 : fst (ph i n held) (k + 1) = none := by rw [g3, p3]; rfl
      obtain ⟨a, b, h⟩ := ih (k + 1) (by omega) e3
      rw [e1, e2] at h
      exact ⟨a, b, by rw [if_pos hm]; exact h⟩
    · have hm2 : (x.n == n && !x.turned) = true := by
        simp only [Bool.or_eq_true, bne_iff_ne, ne_eq, not_or, Classical.not_not] at hm
        simp [hm.1]
        exact Bool.eq_false_iff.2 hm.2
      have p1 : pm i n k = true := by simp [pm, hx', hm2]
      have p2 : pf i n k = x.first := by simp only [pf, hx', hm2, Bool.true_and]
      have p3 : ph i n held k = (match held.l[k]? with | some h => h | none => false) := by unfold ph; rw [hx']; cases held.l[k]? <;> simp [hm2]
      rw [if_neg hm]
      -- nothing holds it here: go on
      have go : ph i n held k = false → ∃ a b, (if (decide (encN (fst (pf i n) k) < 0) && x.first) = true then
          if decide (encN (fst (pm i n) k) < 0) = true then ref26_Source_L0 (n, held, (k : Int), (k : Int), ((k + 1 : Nat) : Int), i) else ref26_Source_L0 (n, held, (k : Int), encN (fst (pm i n) k), ((k + 1 : Nat) : Int), i)
        else if decide (encN (fst (pm i n) k) < 0) = true then ref26_Source_L0 (n, held, encN (fst (pf i n) k), (k : Int), ((k + 1 : Nat) : Int), i) else ref26_Source_L0 (n, held, encN (fst (pf i n) k), encN (fst (pm i n) k), ((k + 1 : Nat) : Int), i)) =
          some (match fst (ph i n held) i.stops.l.length with | some j => .inl ((j : Int), a, b) | none => .inr (encN (fst (pf i n) i.stops.l.length), encN (fst (pm i n) i.stops.l.length))) := by
        intro hph
        have e3 : fst (ph i n held) (k + 1) = none := by rw [g3, hph]; rfl
        obtain ⟨a, b, h⟩ := ih (k + 1) (by omega) e3
        refine ⟨a, b, ?_⟩
        rw [← h, g1, g2, p1, p2, neg, neg]
        cases fst (pf i n) k <;> cases fst (pm i n) k <;> cases x.first <;> simp [encN]
      by_cases hh : k < held.l.length
      · have hg := geti_some hh
        have hg' : held.l[k]? = some held.l[k] := by simp [hh]
        generalize held.l[k] = h at hg hg'
        rw [hg'] at p3
        simp only at p3
        rw [if_pos (by simpa using hh)]
        simp only [hg, Option.bind_some]
        cases h with
        | true =>
          have e3 : fst (ph i n held) (k + 1) = some k := by rw [g3, p3]; rfl
          have mono : ∀ m, fst (ph i n held) (k + 1 + m) = some k := by
            intro m
            induction m with
            | zero => exact e3
            | succ m ih => rw [← Nat.add_assoc, fst_succ, ih]
          have e4 : fst (ph i n held) i.stops.l.length = some k := by
            have := mono (i.stops.l.length - (k + 1))
            rwa [show k + 1 + (i.stops.l.length - (k + 1)) = i.stops.l.length by omega] at this
          rw [e4]
          exact ⟨_, _, rfl⟩
        | false => exact go p3
      · have hg' : held.l[k]? = none := by simp; omega
        rw [hg'] at p3
        rw [if_neg (by simpa using hh)]
        exact go p3

theorem refsrc_eq (i : T.Inst) (n : Int) (held : Sl Bool) (hl : i.stops.l.length < 2 ^ 60) : ref26_Source i n held = some (srcOf i n held) := by
  obtain ⟨a, b, h⟩ := refsrc_L0 i n held hl i.stops.l.length 0 (by omega) rfl
  have e0 : ∀ p, fst p 0 = none := fun p => rfl
  rw [e0, e0] at h
  simp only [encN, Int.natCast_zero] at h
  unfold ref26_Source srcOf
  simp only [h, Option.bind_eq_bind, Option.bind_some]
  cases fst (ph i n held) i.stops.l.length with
  | some j => rfl
  | none =>
    cases fst (pf i n) i.stops.l.length with
    | some j => simp [encN]
    | none => simp [encN]

/-! Comparisons, budgets. -/
theorem ints_L0 (a b : Sl Int) (h : a.l = b.l) (hl : a.l.length < 2 ^ 60) : ∀ (d k : Nat), k + d = a.l.length → law0_Ints_L0 (a, b, (k : Int)) = some (.inr ()) := by
  intro d
  induction d with
  | zero =>
    intro k hk
    rw [law0_Ints_L0.eq_1, if_neg (by simp; omega)]
  | succ d ih =>
    intro k hk
    have hkl : k < a.l.length := by omega
    have hx := geti_some hkl
    have hy : geti b.l (k : Int) = some a.l[k] := by rw [← h]; exact hx
    have hw : IntKind.i64.wrap ((k : Int) + 1) = ((k + 1 : Nat) : Int) := wrap_succ (by omega)
    rw [law0_Ints_L0.eq_1, if_pos (by simpa using hkl)]
    simp only [hx, hy, Option.bind_eq_bind, Option.bind_some, hw]
    rw [if_neg (by simp), ih (k + 1) (by omega)]
theorem ints_same (a b : Sl Int) (h : a.l = b.l) (hl : a.l.length < 2 ^ 60) : law0_Ints a b = some true := by
  have := ints_L0 a b h hl a.l.length 0 (by omega)
  simp only [Int.natCast_zero] at this
  unfold law0_Ints
  rw [if_neg (by rw [h]; simp), this]
  rfl

theorem spans_L0' (a b : Sl T.Span) (h : a.l = b.l) (hl : a.l.length < 2 ^ 60) : ∀ (d k : Nat), k + d = a.l.length → law0_Spans_L0 (a, b, (k : Int)) = some (.inr ()) := by
  intro d
  induction d with
  | zero =>
    intro k hk
    rw [law0_Spans_L0.eq_1, if_neg (by simp; omega)]
  | succ d ih =>
    intro k hk
    have hkl : k < a.l.length := by omega
    have hx := geti_some hkl
    have hy : geti b.l (k : Int) = some a.l[k] := by rw [← h]; exact hx
    have hw : IntKind.i64.wrap ((k : Int) + 1) = ((k + 1 : Nat) : Int) := wrap_succ (by omega)
    rw [law0_Spans_L0.eq_1, if_pos (by simpa using hkl)]
    simp only [hx, hy, Option.bind_eq_bind, Option.bind_some, hw]
    rw [if_neg (by simp), ih (k + 1) (by omega)]
theorem spans_same (a b : Sl T.Span) (h : a.l = b.l) (hl : a.l.length < 2 ^ 60) : law0_Spans a b = some true := by
  have := spans_L0' a b h hl a.l.length 0 (by omega)
  simp only [Int.natCast_zero] at this
  unfold law0_Spans
  rw [if_neg (by rw [h]; simp), this]
  rfl

theorem much_L0 (is : Sl T.Inst) (hl : is.l.length < 2 ^ 60) : ∀ (d k m : Nat), k + d = is.l.length → m ≤ 20 →
    ∃ t : Bool, law26_much_L0 ((m : Int), is, (k : Int)) = some (if t = true then .inl true else .inr ()) ∧ (t = false → many (is.l.drop k) ≤ m) := by
  intro d
  induction d with
  | zero =>
    intro k m hk hm
    refine ⟨false, ?_, fun _ => ?_⟩
    · rw [law26_much_L0.eq_1, if_neg (by simp; omega)]; rfl
    · have h2 : is.l.drop k = [] := by simp; omega
      simp [h2, many]
  | succ d ih =>
    intro k m hk hm
    have hkl : k < is.l.length := by omega
    have hx := geti_some hkl
    have hd := List.drop_eq_getElem_cons hkl
    generalize is.l[k] = x at hx hd
    have hw : IntKind.i64.wrap ((k : Int) + 1) = ((k + 1 : Nat) : Int) := wrap_succ (by omega)
    rw [law26_much_L0.eq_1, if_pos (by simpa using hkl), hd]
    simp only [hx, Option.bind_eq_bind, Option.bind_some, hw]
    by_cases h : x.stops.l.length > m
    · exact ⟨true, by rw [if_pos (by simpa using h)]; rfl, fun h => by cases h⟩
    · have hw2 : IntKind.i64.wrap ((m : Int) - (x.stops.l.length : Int)) = ((m - x.stops.l.length : Nat) : Int) := by rw [wrap_in (by omega) (by omega)]; omega
      obtain ⟨t, h1, h2⟩ := ih (k + 1) (m - x.stops.l.length) (by omega) (by omega)
      refine ⟨t, by rw [if_neg (by simpa using h), hw2, h1], fun ht => ?_⟩
      have := h2 ht
      simp only [many, List.map_cons, List.sum_cons] at this ⊢
      omega

theorem much_eq (is : Sl T.Inst) : ∃ t : Bool, law26_much 20 is = some t ∧ (t = false → is.l.length ≤ 10 ∧ many is.l ≤ 20) := by
  unfold law26_much
  by_cases h : is.l.length > 10
  · exact ⟨true, by rw [if_pos (by simp; omega)], fun h => by cases h⟩
  · obtain ⟨t, h1, h2⟩ := much_L0 is (by omega) is.l.length 0 20 (by omega) (by omega)
    simp only [Int.natCast_zero, List.drop_zero] at h1 h2
    refine ⟨t, ?_, fun ht => ⟨by omega, h2 ht⟩⟩
    rw [if_neg (by simp; omega)]
    have e : ((20 : Nat) : Int) = 20 := rfl
    rw [e] at h1
    rw [h1]
    cases t <;> rfl

theorem nodup_len : ∀ {a b : List Int}, a.Nodup → (∀ x ∈ a, x ∈ b) → a.length ≤ b.length
  | [], b, _, _ => by simp
  | x :: a, b, hn, hs => by
    have hn' := List.nodup_cons.1 hn
    have hx : x ∈ b := hs x (by simp)
    have hp := List.perm_cons_erase hx
    have := nodup_len (a := a) (b := b.erase x) hn'.2 fun y hy => (List.mem_erase_of_ne (fun e : y = x => hn'.1 (e ▸ hy))).2 (hs y (by simp [hy]))
    have := hp.length_eq
    simp only [List.length_cons] at this ⊢
    omega

theorem isNums_len {ns out : List Int} (h : IsNums ns out) : out.length ≤ ns.length + 1 := by
  obtain ⟨r, h1, h2, rfl⟩ := h.ex
  have hn : r.Nodup := h1.imp fun h => by omega
  have := nodup_len hn fun x hx => ((h2 x).1 hx).1
  split <;> simp <;> omega

theorem tell_L2 (is : Sl T.Inst) (cur : Int) (held : Sl Bool) (i : Nat) (x : T.Inst) (hx : geti is.l i = some x) (hl : x.stops.l.length < 2 ^ 60) : ∀ (d k : Nat), k + d = x.stops.l.length →
    law26_StopsTell_L2 (is, cur, held, (i : Int), (k : Int)) = some (.inr ()) := by
  intro d
  induction d with
  | zero =>
    intro k hk
    rw [law26_StopsTell_L2.eq_1]
    simp only [hx, Option.bind_eq_bind, Option.bind_some]
    rw [if_neg (by simp; omega)]
  | succ d ih =>
    intro k hk
    have hkl : k < x.stops.l.length := by omega
    have hy := geti_some hkl
    generalize x.stops.l[k] = y at hy
    have hw : IntKind.i64.wrap ((k : Int) + 1) = ((k + 1 : Nat) : Int) := wrap_succ (by omega)
    rw [law26_StopsTell_L2.eq_1]
    simp only [hx, Option.bind_eq_bind, Option.bind_some]
    rw [if_pos (by simpa using hkl)]
    simp only [hy, Option.bind_some, src_eq x y.n held hl, refsrc_eq x y.n held hl, hw]
    rw [if_neg (by simp), ih (k + 1) (by omega)]

theorem tell_L0 (is : Sl T.Inst) (cur : Int) (held : Sl Bool) (hl : is.l.length < 2 ^ 60) (hs : ∀ x ∈ is.l, x.stops.l.length < 2 ^ 60) : ∀ (d k : Nat), k + d = is.l.length →
    law26_StopsTell_L0 (is, cur, held, (k : Int)) = some (.inr ()) := by
  intro d
  induction d with
  | zero =>
    intro k hk
    rw [law26_StopsTell_L0.eq_1, if_neg (by simp; omega)]
  | succ d ih =>
    intro k hk
    have hkl : k < is.l.length := by omega
    have hx := geti_some hkl
    have hm : is.l[k] ∈ is.l := by simp
    generalize is.l[k] = x at hx hm
    have hw : IntKind.i64.wrap ((k : Int) + 1) = ((k + 1 : Nat) : Int) := wrap_succ (by omega)
    have h2 := tell_L2 is cur held k x hx (hs x hm) x.stops.l.length 0 (by omega)
    simp only [Int.natCast_zero] at h2
    rw [law26_StopsTell_L0.eq_1, if_pos (by simpa using hkl)]
    simp only [hx, Option.bind_eq_bind, Option.bind_some, src_eq x cur held (hs x hm), refsrc_eq x cur held (hs x hm), hw, h2]
    rw [if_neg (by simp), ih (k + 1) (by omega)]

theorem law_StopsTell (is : Sl T.Inst) (cur : Int) (held : Sl Bool) (h1 : slOk T.Inst.ok is) (_ : inI cur) (_ : slOk trueOf held) : law26_StopsTell is cur held = some true := by
  obtain ⟨t, ht, hb⟩ := much_eq is
  have ha : aw7 = some true := rfl
  unfold law26_StopsTell
  simp only [ht, Option.bind_eq_bind, Option.bind_some]
  split
  · simp [ha]
  · rename_i hc
    simp only [Bool.or_eq_true, not_or] at hc
    obtain ⟨b1, b2⟩ := hb (Bool.eq_false_iff.2 hc.1)
    have hin : ∀ x ∈ nsAll is.l, inI x := by
      intro x hx
      simp only [nsAll, List.mem_flatMap, nsOf, List.mem_map, List.mem_filter] at hx
      obtain ⟨i, hi, s, ⟨hs, _⟩, rfl⟩ := hx
      exact ((h1.2 i hi).2.1.2 s hs).2.1
    obtain ⟨o1, p1, p2⟩ := prog_nums is (by omega) (by omega) hin
    obtain ⟨o2, q1, q2⟩ := ref_nums is (by omega) (by omega)
    have hs : o1 = o2.l := isNums_one p2 q2
    have hlen : o1.length ≤ 21 := by
      have := isNums_len p2
      have := nsAll_len is.l
      omega
    have hst : ∀ x ∈ is.l, x.stops.l.length < 2 ^ 60 := fun x hx => by have := many_mem hx; omega
    have hL0 := tell_L0 is cur held (by omega) hst is.l.length 0 (by omega)
    simp only [Int.natCast_zero] at hL0
    have hsp : (spAll cur is.l).length < 2 ^ 60 := by
      have : ∀ l : List T.Inst, (spAll cur l).length ≤ many l := by
        intro l
        induction l with
        | nil => simp [spAll, many]
        | cons i l ih =>
          have := spOf_len cur i.stops.l
          simp only [spAll, many, List.flatMap_cons, List.length_append, List.map_cons, List.sum_cons] at ih ⊢
          omega
      have := this is.l
      omega
    simp only [next_eq cur is o1 p1 (by omega), refnext_eq cur is o2 q1 (by rw [← hs]; omega), prev_eq cur is o1 p1 (by omega), refprev_eq cur is o2 q1 (by rw [← hs]; omega), p1, q1, Option.bind_some,
      ints_same ⟨o1.isEmpty, o1⟩ o2 hs (by simp only; omega), spans_eq cur is (by omega) (by omega), refspans_eq cur is (by omega) (by omega), spans_same ⟨(spAll cur is.l).isEmpty, spAll cur is.l⟩ ⟨(spAll cur is.l).isEmpty, spAll cur is.l⟩ rfl hsp, hL0, ha, ← hs]
    simp

end Go.Proofs.Ytdhgdeelagmbpaa
