/-
  The law StopsMay, on plain data.
-/
import Derived.Test.YtdhgdeelagmbpaaSh
set_option linter.unusedSimpArgs false
set_option linter.unusedVariables false
namespace Go.Proofs.Ytdhgdeelagmbpaa
open Go Go.Gm

/-- Is the stop at 'u', or one that it stands in, the one asked for? And 'In' of the document. -/
theorem placed_in (i : T.Inst) (k : Nat) (x : T.Stop) (hk : geti i.stops.l k = some x) (u : Nat) : u < i.stops.l.length →
    ∃ t : Bool, ref26_In_L0 (i.stops, (u : Int), x.up) = some (if t then .inl true else .inr ()) ∧
      stops_placed_L0 ((k : Int), (u : Int), i) = some (if x.up == (u : Int) || t then .inl true else .inr ()) := by
  induction u using Nat.strongRecOn with
  | _ u ih =>
  intro hul
  have hx := geti_some hul
  generalize i.stops.l[u] = y at hx
  by_cases hv : 0 ≤ y.up ∧ y.up < u
  · obtain ⟨v, hv'⟩ : ∃ v : Nat, y.up = v := ⟨y.up.toNat, by omega⟩
    obtain ⟨t, h1, h2⟩ := ih v (by omega) (by omega)
    refine ⟨(y.up == x.up) || t, ?_, ?_⟩
    · rw [ref26_In_L0.eq_1]
      by_cases e : y.up = x.up
      · have e2 : (y.up == x.up) = true := by simpa using e
        simp only [hx, Option.bind_eq_bind, Option.bind_some, e2]
        simp [hul, hv]
      · have e2 : (y.up == x.up) = false := by simpa using e
        simp only [hx, Option.bind_eq_bind, Option.bind_some, e2]
        have hvu : v < u := by omega
        simp [hul, hv', h1, hvu]
    · rw [stops_placed_L0.eq_1]
      by_cases e : x.up = u
      · simp [hk, e]
      · have e2 : (x.up == (u : Int)) = false := by simpa using e
        have hs : stops_up i u = some (v : Int) := by
          unfold stops_up
          rw [hx]
          simp only [Option.bind_eq_bind, Option.bind_some]
          rw [if_pos (by simp [hv']; omega), hv']
        simp only [hk, hs, Option.bind_eq_bind, Option.bind_some, e2, h2]
        have : (x.up == (v : Int)) = ((v : Int) == x.up) := BEq.comm
        simp [this, hv']
  · refine ⟨false, ?_, ?_⟩
    · rw [ref26_In_L0.eq_1]
      by_cases h : 0 ≤ y.up
      · have h2 : ¬ y.up < u := fun h2 => hv ⟨h, h2⟩
        simp [hx, hul, h, h2]
      · simp [hx, hul, h]
    · rw [stops_placed_L0.eq_1]
      by_cases e : x.up = u
      · simp [hk, e]
      · have e2 : (x.up == (u : Int)) = false := by simpa using e
        have hs : stops_up i u = some (-1) := by
          unfold stops_up
          rw [hx]
          simp only [Option.bind_eq_bind, Option.bind_some]
          rw [if_neg (by simp; omega)]
        have hn : stops_placed_L0 ((k : Int), -1, i) = some (.inr ()) := by
          rw [stops_placed_L0.eq_1]
          rfl
        simp only [hk, hs, Option.bind_eq_bind, Option.bind_some, e2, hn]
        simp

/-- What 'In' finds lies ahead. -/
theorem in_ahead (l : Sl T.Stop) (u : Nat) (b : Int) : ref26_In_L0 (l, (u : Int), b) = some (.inl true) → 0 ≤ b ∧ b < u := by
  induction u using Nat.strongRecOn with
  | _ u ih =>
  intro h
  rw [ref26_In_L0.eq_1] at h
  by_cases hul : u < l.l.length
  · have hx := geti_some hul
    generalize l.l[u] = y at hx
    simp only [hx, Option.bind_eq_bind, Option.bind_some] at h
    by_cases hv : 0 ≤ y.up ∧ y.up < u
    · obtain ⟨v, hv'⟩ : ∃ v : Nat, y.up = v := ⟨y.up.toNat, by omega⟩
      by_cases e : y.up = b
      · omega
      · have hvu : v < u := by omega
        simp [hul, hv', hvu] at h
        have := ih v (by omega) (h (by omega))
        omega
    · by_cases h0 : 0 ≤ y.up
      · have h2 : ¬ y.up < u := fun h2 => hv ⟨h0, h2⟩
        simp [hul, h0, h2] at h
      · simp [hul, h0] at h
  · simp [hul] at h

/-- What one stop must be, as the program finds it and as the document tells it. -/
theorem placed_ref (i : T.Inst) (k : Nat) (x : T.Stop) (hk : geti i.stops.l k = some x) (hl : i.stops.l.length < 2 ^ 60) :
    ∃ t : Bool, stops_placed i k = some t ∧ (t = true → -1 ≤ x.up ∧ x.up < k) ∧
      (x.up = -1 → t = true) ∧ (x.up ≠ -1 → 0 ≤ x.up → x.up < k → (x.up = (k : Int) - 1 → t = true) ∧ (x.up ≠ (k : Int) - 1 → ref26_In i.stops ((k : Int) - 1) x.up = some t)) := by
  have hkl : k < i.stops.l.length := by
    have := geti_lt hk
    simpa using this
  have hw : IntKind.i64.wrap ((k : Int) - 1) = (k : Int) - 1 := wrap_in (by omega) (by omega)
  cases k with
  | zero =>
    refine ⟨x.up == -1, ?_, ?_, ?_, ?_⟩
    · unfold stops_placed
      rw [hw, stops_placed_L0.eq_1]
      simp only [Int.natCast_zero] at hk ⊢
      simp [hk]
    · intro h; simp at h; omega
    · intro h; simp [h]
    · intro _ h1 h2; omega
  | succ k =>
    obtain ⟨t, h1, h2⟩ := placed_in i (k + 1) x hk k (by omega)
    have e1 : ((k + 1 : Nat) : Int) - 1 = (k : Int) := by omega
    have e2 : IntKind.i64.wrap (((k + 1 : Nat) : Int) - 1) = (k : Int) := by rw [hw, e1]
    have hu : t = true → 0 ≤ x.up ∧ x.up < k := by
      intro ht
      subst ht
      exact in_ahead i.stops k x.up (by simpa using h1)
    refine ⟨(x.up == (k : Int)) || t || (x.up == -1), ?_, ?_, ?_, ?_⟩
    · unfold stops_placed
      rw [e2, h2]
      by_cases e : (x.up == (k : Int) || t) = true
      · simp [e]
      · simp only [Bool.not_eq_true] at e
        have hk' : geti i.stops.l ((k : Int) + 1) = some x := by simpa using hk
        simp [e, hk']
    · intro h
      simp only [Bool.or_eq_true, beq_iff_eq] at h
      rcases h with (h | h) | h
      · omega
      · have := hu h; omega
      · omega
    · intro h; simp [h]
    · intro h0 h3 h4
      rw [e1]
      refine ⟨fun h => by simp [h], fun h => ?_⟩
      unfold ref26_In
      rw [h1]
      have : (x.up == (k : Int)) = false := by simpa using h
      have h5 : (x.up == (-1 : Int)) = false := by simpa using h0
      cases t <;> simp [this, h5]

/-- Does one of the stops behind 'j' that stand in the same one end behind where this one begins? -/
def beside (x : T.Stop) : List T.Stop → Bool
  | [] => false
  | y :: r => (y.up == x.up && decide (x.span.frm < y.span.to)) || beside x r

theorem beside_iff (x : T.Stop) : ∀ l : List T.Stop, beside x l = true ↔ ∃ (q : Nat) (y : T.Stop), l[q]? = some y ∧ y.up = x.up ∧ x.span.frm < y.span.to
  | [] => by simp [beside]
  | y :: r => by
    simp only [beside, Bool.or_eq_true, Bool.and_eq_true, beq_iff_eq, decide_eq_true_eq, beside_iff x r]
    constructor
    · rintro (h | ⟨q, z, h⟩)
      · exact ⟨0, y, rfl, h⟩
      · exact ⟨q + 1, z, by simpa using h.1, h.2⟩
    · rintro ⟨q, z, h1, h2⟩
      cases q with
      | zero => simp at h1; subst h1; exact .inl h2
      | succ q => exact .inr ⟨q, z, by simpa using h1, h2⟩

theorem ref_beside (i : T.Inst) (x : T.Stop) (b : T.Span) (k : Nat) (hk : k ≤ i.stops.l.length) (hl : i.stops.l.length < 2 ^ 60) : ∀ (n j : Nat), j + n = k →
    ref26_May_L2 ((k : Int), (j : Int), i, x, b) = some (if beside x ((i.stops.l.take k).drop j) = true then .inl false else .inr ()) := by
  intro n
  induction n with
  | zero =>
    intro j hj
    obtain rfl : j = k := by omega
    rw [ref26_May_L2.eq_1]
    have : (i.stops.l.take j).drop j = [] := by simp
    simp [this, beside]
  | succ n ih =>
    intro j hj
    have hjl : j < i.stops.l.length := by omega
    have hjk : j < k := by omega
    have hd : (i.stops.l.take k).drop j = i.stops.l[j] :: (i.stops.l.take k).drop (j + 1) := by
      rw [List.drop_eq_getElem_cons (by simp; omega)]
      simp
    have hw : IntKind.i64.wrap ((j : Int) + 1) = ((j + 1 : Nat) : Int) := wrap_succ (by omega)
    have hx := geti_some hjl
    rw [hd]
    generalize i.stops.l[j] = y at hx
    rw [ref26_May_L2.eq_1]
    simp only [hx, Option.bind_eq_bind, Option.bind_some, hw, ih (j + 1) (by omega), beside]
    by_cases h1 : y.up = x.up
    · by_cases h2 : x.span.frm < y.span.to
      · simp [h1, h2, hjk]
      · simp [h1, h2, hjk]
    · simp [h1, hjk]

/-- A round of the document's. -/
def inWhole (i : T.Inst) (x : T.Stop) : Bool :=
  if 0 ≤ x.up then match i.stops.l[x.up.toNat]? with
    | some y => decide (x.span.frm ≥ y.span.frm) && decide (x.span.to ≤ y.span.to)
    | none => false
  else decide (x.span.frm ≥ i.span.frm) && decide (x.span.to ≤ i.span.to)

def okAt (i : T.Inst) (k : Nat) (x : T.Stop) (t : Bool) : Bool :=
  t && decide (x.span.frm ≤ x.span.to) && !(beside x (i.stops.l.take k)) && inWhole i x

theorem within_eq (a b : T.Span) : ref5_Within a b = some (decide (a.frm ≥ b.frm) && decide (a.to ≤ b.to)) := by
  unfold ref5_Within
  by_cases h : a.frm ≥ b.frm <;> simp [h]
theorem within_eq' (a b : T.Span) : span_Within a b = some (decide (a.frm ≥ b.frm) && decide (a.to ≤ b.to)) := by
  unfold span_Within
  by_cases h : a.frm ≥ b.frm <;> simp [h]

theorem ref_round (i : T.Inst) (k : Nat) (hk : k < i.stops.l.length) (hl : i.stops.l.length < 2 ^ 60) :
    ∃ t : Bool, stops_placed i k = some t ∧ (t = true → -1 ≤ i.stops.l[k].up ∧ i.stops.l[k].up < k) ∧
    ref26_May_L0 ((k : Int), i) = if okAt i k i.stops.l[k] t = true then ref26_May_L0 (((k + 1 : Nat) : Int), i) else some (.inl false) := by
  have hx := geti_some hk
  generalize i.stops.l[k] = x at hx
  obtain ⟨t, h1, h2, h3, h4⟩ := placed_ref i k x hx hl
  refine ⟨t, h1, h2, ?_⟩
  have hw : IntKind.i64.wrap ((k : Int) + 1) = ((k + 1 : Nat) : Int) := wrap_succ (by omega)
  have hw2 : IntKind.i64.wrap ((k : Int) - 1) = (k : Int) - 1 := wrap_in (by omega) (by omega)
  have hb := fun b => ref_beside i x b k (by omega) hl k 0 (by omega)
  simp only [Int.natCast_zero, List.drop_zero] at hb
  rw [ref26_May_L0.eq_1]
  simp only [hx, Option.bind_eq_bind, Option.bind_some, hw, hw2, hb, within_eq]
  have hlt : decide ((k : Int) < (i.stops.l.length : Int)) = true := by simpa using hk
  rw [if_pos hlt]
  -- behind the tests on Up, whatever it stands in
  have tail : ∀ (b : T.Span) (q : Bool), (b.frm ≤ x.span.frm ∧ x.span.to ≤ b.to ↔ q = true) →
      (if decide (x.span.frm > x.span.to) = true then some (.inl false) else if (!(decide (x.span.frm ≥ b.frm) && decide (x.span.to ≤ b.to))) = true then some (.inl false)
        else (some (if beside x (i.stops.l.take k) = true then (.inl false : Bool ⊕ Unit) else .inr ())).bind fun v => match v with
          | .inl y => some (.inl y)
          | .inr _ => ref26_May_L0 (((k + 1 : Nat) : Int), i)) =
      if (decide (x.span.frm ≤ x.span.to) && !(beside x (i.stops.l.take k)) && q) = true then ref26_May_L0 (((k + 1 : Nat) : Int), i) else some (.inl false) := by
    intro b q hq
    by_cases h1 : x.span.frm > x.span.to
    · have : ¬ x.span.frm ≤ x.span.to := by omega
      simp [h1, this]
    · have h1' : x.span.frm ≤ x.span.to := by omega
      cases q with
      | true =>
        obtain ⟨a1, a2⟩ := hq.2 rfl
        cases beside x (i.stops.l.take k) <;> simp [h1', a1, a2] <;> omega
      | false =>
        have : (decide (x.span.frm ≥ b.frm) && decide (x.span.to ≤ b.to)) = false := by
          rw [Bool.eq_false_iff]
          intro h
          simp only [Bool.and_eq_true, decide_eq_true_eq] at h
          cases hq.1 h
        simp [this]
  by_cases hu : x.up = -1
  · have ht := h3 hu
    subst ht
    have e1 : (x.up != -1) = false := by simp [hu]
    have e2 : decide (x.up ≥ 0) = false := by simp [hu]
    have e3 : ¬ 0 ≤ x.up := by omega
    simp only [e1, e2, okAt, inWhole, e3, if_false, Bool.false_eq_true, Bool.true_and]
    exact tail i.span (decide (x.span.frm ≥ i.span.frm) && decide (x.span.to ≤ i.span.to)) (by simp)
  · have e1 : (x.up != -1) = true := by simp [hu]
    by_cases hr : 0 ≤ x.up ∧ x.up < k
    · obtain ⟨h5, h6⟩ := h4 hu hr.1 hr.2
      have e0 : (decide (x.up < 0) || decide (x.up ≥ (k : Int))) = false := by simp; omega
      have e2 : decide (x.up ≥ 0) = true := by simp; omega
      obtain ⟨v, hv⟩ : ∃ v : Nat, x.up = v := ⟨x.up.toNat, by omega⟩
      have hvl : v < i.stops.l.length := by omega
      have hy := geti_some hvl
      have hy2 : i.stops.l[x.up.toNat]? = some i.stops.l[v] := by rw [hv]; simp [hvl]
      generalize i.stops.l[v] = y at hy hy2
      have hy' : geti i.stops.l x.up = some y := by rw [hv]; exact hy
      have fin := tail y.span (decide (x.span.frm ≥ y.span.frm) && decide (x.span.to ≤ y.span.to)) (by simp)
      simp only [e1, e0, e2, okAt, inWhole, hr.1, hy', hy2, if_true, Bool.false_eq_true, if_false, Option.bind_some]
      by_cases h7 : x.up = (k : Int) - 1
      · have := h5 h7
        subst this
        have e3 : (x.up != (k : Int) - 1) = false := by simp [h7]
        simp only [e3, Bool.false_eq_true, if_false, Bool.true_and]
        exact fin
      · have e3 : (x.up != (k : Int) - 1) = true := by simp [h7]
        simp only [e3, if_true, h6 h7, Option.bind_some]
        cases t with
        | true =>
          simp only [Bool.not_true, Bool.false_eq_true, if_false, Bool.true_and]
          exact fin
        | false => simp
    · have e0 : (decide (x.up < 0) || decide (x.up ≥ (k : Int))) = true := by
        simp only [Bool.or_eq_true, decide_eq_true_eq]
        omega
      have : t = false := by
        cases t with
        | true => have := h2 rfl; omega
        | false => rfl
      subst this
      simp [e1, e0, okAt]

/-- A round of the program's. -/
theorem prog_round (i : T.Inst) (k : Nat) (hk : k < i.stops.l.length) (hl : i.stops.l.length < 2 ^ 60) (t : Bool) (ht : stops_placed i k = some t) (hup : t = true → -1 ≤ i.stops.l[k].up ∧ i.stops.l[k].up < k) (ends : MapII) :
    stops_May_L0 (i.stops, (i.stops.l.length : Int), (k : Int), i, ends) =
      if (t && decide (i.stops.l[k].span.frm ≤ i.stops.l[k].span.to) && !(mhas ends i.stops.l[k].up && decide (i.stops.l[k].span.frm < mget ends i.stops.l[k].up)) &&
        inWhole i i.stops.l[k]) = true
      then stops_May_L0 (i.stops, (i.stops.l.length : Int), ((k + 1 : Nat) : Int), i, mput ends i.stops.l[k].up i.stops.l[k].span.to) else some (.inl (false, ends)) := by
  have hx := geti_some hk
  generalize i.stops.l[k] = x at hx hup
  have hw : IntKind.i64.wrap ((k : Int) + 1) = ((k + 1 : Nat) : Int) := wrap_succ (by omega)
  have hlt : decide ((k : Int) < (i.stops.l.length : Int)) = true := by simpa using hk
  rw [stops_May_L0.eq_1, if_pos hlt]
  simp only [hx, ht, Option.bind_eq_bind, Option.bind_some, hw, within_eq']
  cases t with
  | false => simp
  | true =>
    have := hup rfl
    by_cases h1 : x.span.frm > x.span.to
    · have h2 : ¬ x.span.frm ≤ x.span.to := by omega
      simp [h1, h2]
    · have h2 : x.span.frm ≤ x.span.to := by omega
      by_cases hu : 0 ≤ x.up
      · obtain ⟨v, hv⟩ : ∃ v : Nat, x.up = v := ⟨x.up.toNat, by omega⟩
        have hvl : v < i.stops.l.length := by omega
        have hy := geti_some hvl
        have hy2 : i.stops.l[x.up.toNat]? = some i.stops.l[v] := by rw [hv]; simp [hvl]
        generalize i.stops.l[v] = y at hy hy2
        have hy' : geti i.stops.l x.up = some y := by rw [hv]; exact hy
        simp only [hy', hy2, Option.bind_some, inWhole]
        by_cases h3 : x.span.frm ≥ y.span.frm <;> by_cases h4 : x.span.to ≤ y.span.to <;> cases mhas ends x.up <;> by_cases h5 : x.span.frm < mget ends x.up <;> simp [h1, h2, hu, h3, h4, h5] <;> omega
      · simp only [inWhole]
        by_cases h3 : x.span.frm ≥ i.span.frm <;> by_cases h4 : x.span.to ≤ i.span.to <;> cases mhas ends x.up <;> by_cases h5 : x.span.frm < mget ends x.up <;> simp [h1, h2, hu, h3, h4, h5] <;> omega

/-- What is known of the stops that were come by. -/
structure Seen (l : List T.Stop) (k : Nat) (ends : MapII) : Prop where
  fwd : ∀ (j : Nat) x, j < k → l[j]? = some x → x.span.frm ≤ x.span.to ∧ mhas ends x.up = true ∧ x.span.to ≤ mget ends x.up
  bwd : ∀ u, mhas ends u = true → ∃ (j : Nat) (x : T.Stop), j < k ∧ l[j]? = some x ∧ x.up = u ∧ mget ends u = x.span.to

theorem seen_beside {l : List T.Stop} {k : Nat} {ends : MapII} (h : Seen l k ends) (x : T.Stop) (hk : k ≤ l.length) : beside x (l.take k) = (mhas ends x.up && decide (x.span.frm < mget ends x.up)) := by
  rw [Bool.eq_iff_iff, beside_iff]
  simp only [Bool.and_eq_true, decide_eq_true_eq]
  constructor
  · rintro ⟨q, y, h1, h2, h3⟩
    have hq : q < k := by
      have := (List.getElem?_eq_some_iff.1 h1).1
      simp at this
      omega
    rw [List.getElem?_take_of_lt hq] at h1
    obtain ⟨_, b, c⟩ := h.fwd q y hq h1
    rw [h2] at b c
    exact ⟨b, by omega⟩
  · rintro ⟨h1, h2⟩
    obtain ⟨j, y, hj, hy, hu, he⟩ := h.bwd _ h1
    exact ⟨j, y, by rw [List.getElem?_take_of_lt hj]; exact hy, hu, by omega⟩

theorem seen_next {l : List T.Stop} {k : Nat} {ends : MapII} (h : Seen l k ends) (x : T.Stop) (hx : l[k]? = some x) (h1 : x.span.frm ≤ x.span.to) (h2 : (mhas ends x.up && decide (x.span.frm < mget ends x.up)) = false) : Seen l (k + 1) (mput ends x.up x.span.to) := by
  constructor
  · intro j y hj hy
    rw [mhas_put, mget_put]
    by_cases hjk : j = k
    · subst hjk
      rw [hx] at hy
      cases hy
      simp [h1]
    · obtain ⟨a, b, c⟩ := h.fwd j y (by omega) hy
      refine ⟨a, by simp [b], ?_⟩
      by_cases e : y.up = x.up
      · rw [if_pos e]
        rw [e] at b c
        simp only [b, Bool.true_and, decide_eq_false_iff_not] at h2
        omega
      · rw [if_neg e]
        exact c
  · intro u hu
    rw [mget_put]
    rw [mhas_put] at hu
    by_cases e : u = x.up
    · exact ⟨k, x, by omega, hx, e.symm, by rw [if_pos e]⟩
    · rw [if_neg e] at hu ⊢
      obtain ⟨j, y, hj, hy⟩ := h.bwd u hu
      exact ⟨j, y, by omega, hy⟩

theorem may_loops (i : T.Inst) (hl : i.stops.l.length < 2 ^ 60) : ∀ (n k : Nat) (ends : MapII), k + n = i.stops.l.length → Seen i.stops.l k ends →
    ∃ (t : Bool) (e : MapII), stops_May_L0 (i.stops, (i.stops.l.length : Int), (k : Int), i, ends) = some (if t = true then .inr e else .inl (false, e)) ∧
      ref26_May_L0 ((k : Int), i) = some (if t = true then .inr () else .inl false) := by
  intro n
  induction n with
  | zero =>
    intro k ends hk _
    obtain rfl : k = i.stops.l.length := by omega
    refine ⟨true, ends, ?_, ?_⟩
    · rw [stops_May_L0.eq_1]; simp
    · rw [ref26_May_L0.eq_1]; simp
  | succ n ih =>
    intro k ends hk hs
    have hkl : k < i.stops.l.length := by omega
    obtain ⟨t, h1, h2, h3⟩ := ref_round i k hkl hl
    have h4 := prog_round i k hkl hl t h1 h2 ends
    rw [h3, h4, okAt, seen_beside hs _ (by omega)]
    have hx : i.stops.l[k]? = some i.stops.l[k] := by simp [hkl]
    generalize i.stops.l[k] = x at hx ⊢
    split
    · rename_i hc
      simp only [Bool.and_eq_true, decide_eq_true_eq, Bool.not_eq_true'] at hc
      exact ih (k + 1) _ (by omega) (seen_next hs x hx hc.1.1.2 hc.1.2)
    · exact ⟨false, ends, rfl, rfl⟩

theorem may_same (i : T.Inst) (n : Int) (hl : i.stops.l.length < 2 ^ 60) : ∃ t : Bool, stops_May i n = some t ∧ ref26_May i n = some t := by
  have hm : ref5_May i.span n = span_May i.span n := rfl
  obtain ⟨b, hb⟩ : ∃ b, span_May i.span n = some b := by
    unfold span_May
    split <;> exact ⟨_, rfl⟩
  obtain ⟨t, e, h1, h2⟩ := may_loops i hl i.stops.l.length 0 ⟨[], 0⟩ (by omega) ⟨fun j x hj => by omega, fun u hu => by simp [mhas_nil] at hu⟩
  simp only [Int.natCast_zero] at h1 h2
  unfold stops_May ref26_May
  rw [hm, hb]
  simp only [Option.bind_eq_bind, Option.bind_some]
  cases b with
  | false => exact ⟨false, rfl, rfl⟩
  | true =>
    simp only [Bool.not_true, Bool.false_eq_true, if_false, h1, h2, Option.bind_some]
    cases t <;> exact ⟨_, rfl, rfl⟩

theorem law_StopsMay (i : T.Inst) (n : Int) : law26_StopsMay i n = some true := by
  unfold law26_StopsMay
  have ha : aw7 = some true := rfl
  split
  · simp [ha]
  · rename_i h
    simp only [decide_eq_true_eq] at h
    obtain ⟨t, h1, h2⟩ := may_same i n (by omega)
    simp [h1, h2, ha]

end Go.Proofs.Ytdhgdeelagmbpaa
