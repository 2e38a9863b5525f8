/-
  The law StopsWalk, on plain data.
-/
import Derived.Test.YtdhgdeelagmbpaaStSrc
set_option linter.unusedSimpArgs false
set_option linter.unusedVariables false
namespace Go.Proofs.Ytdhgdeelagmbpaa
open Go Go.Gm

/-! A list of numbers, rising, 0 at last: from one to the next, and back. -/
/-- Each one is above the one ahead of it, and of all behind; only the last may be 0. -/
def Ups (l : List Int) : Prop := l.Pairwise fun a b => a ≠ 0 ∧ (b = 0 ∨ a < b)

theorem above_iff (n cur : Int) : aboveB n cur = true ↔ cur ≠ 0 ∧ (n = 0 ∨ n > cur) := by
  unfold aboveB
  simp

theorem nums_ups {ns out : List Int} (h : IsNums ns out) : Ups out := by
  obtain ⟨r, h1, h2, rfl⟩ := h.ex
  have hr : Ups r := by
    refine h1.imp_of_mem fun {a b} ha hb hab => ⟨((h2 a).1 ha).2, .inr hab⟩
  split
  · refine List.pairwise_append.2 ⟨hr, by simp, fun x hx y hy => ?_⟩
    simp at hy
    exact ⟨((h2 x).1 hx).2, .inl hy⟩
  · exact hr

/-- The next of a number. -/
theorem find_next {pre : List Int} {x y : Int} {r : List Int} (h : Ups (pre ++ x :: y :: r)) : (pre ++ x :: y :: r).find? (aboveB · x) = some y := by
  obtain ⟨h1, h2, h3⟩ := List.pairwise_append.1 h
  have hy := (List.pairwise_cons.1 h2).1 y (by simp)
  have hpre : ∀ a ∈ pre, aboveB a x = false := by
    intro a ha
    have := h3 a ha x (by simp)
    rw [Bool.eq_false_iff, ne_eq, above_iff]
    rintro ⟨hx0, e | e⟩
    · exact this.1 e
    · rcases this.2 with e2 | e2 <;> omega
  have hx : aboveB x x = false := by
    rw [Bool.eq_false_iff, ne_eq, above_iff]
    rintro ⟨hx0, e | e⟩ <;> omega
  have hyy : aboveB y x = true := (above_iff y x).2 ⟨hy.1, by rcases hy.2 with e | e <;> omega⟩
  rw [List.find?_append, List.find?_eq_none.2 (fun a ha => by simp [hpre a ha])]
  simp [hx, hyy]

theorem find_last {pre : List Int} {x : Int} (h : Ups (pre ++ [x])) : (pre ++ [x]).find? (aboveB · x) = none := by
  obtain ⟨h1, h2, h3⟩ := List.pairwise_append.1 h
  rw [List.find?_eq_none]
  intro a ha
  rw [above_iff]
  rintro ⟨hx0, e⟩
  rcases List.mem_append.1 ha with ha | ha
  · have := h3 a ha x (by simp)
    rcases e with e | e
    · exact this.1 e
    · rcases this.2 with e2 | e2 <;> omega
  · simp at ha; subst ha; rcases e with e | e <;> omega

theorem find_prev {pre : List Int} {x y : Int} {r : List Int} (h : Ups (pre ++ x :: y :: r)) : (pre ++ x :: y :: r).reverse.find? (aboveB y ·) = some x := by
  obtain ⟨h1, h2, h3⟩ := List.pairwise_append.1 h
  have h2' := List.pairwise_cons.1 h2
  have h4 := (List.pairwise_cons.1 h2'.2).1
  have hxy := h2'.1 y (by simp)
  have hr : ∀ a ∈ r, aboveB y a = false := by
    intro a ha
    have := h4 a ha
    rw [Bool.eq_false_iff, ne_eq, above_iff]
    rintro ⟨ha0, e | e⟩
    · exact this.1 e
    · rcases this.2 with e2 | e2 <;> omega
  have hyy : aboveB y y = false := by
    rw [Bool.eq_false_iff, ne_eq, above_iff]
    rintro ⟨hx0, e | e⟩ <;> omega
  have hx : aboveB y x = true := (above_iff y x).2 ⟨hxy.1, by rcases hxy.2 with e | e <;> omega⟩
  have e1 : (pre ++ x :: y :: r).reverse = r.reverse ++ (y :: x :: pre.reverse) := by simp
  rw [e1, List.find?_append, List.find?_eq_none.2 (fun a ha => by simp [hr a (List.mem_reverse.1 ha)])]
  simp [hx, hyy]

theorem find_first {x : Int} {r : List Int} (h : Ups (x :: r)) : (x :: r).reverse.find? (aboveB x ·) = none := by
  rw [List.find?_eq_none]
  intro a ha
  rw [above_iff]
  rintro ⟨ha0, e⟩
  rcases List.mem_cons.1 (List.mem_reverse.1 ha) with rfl | ha
  · rcases e with e | e <;> omega
  · have := (List.pairwise_cons.1 h).1 a ha
    rcases e with e | e
    · exact this.1 e
    · rcases this.2 with e2 | e2 <;> omega

theorem split_at {l : List Int} {k : Nat} (h : k + 1 < l.length) : l = l.take k ++ l[k] :: l[k + 1] :: l.drop (k + 2) := by
  have h1 : l.drop k = l[k] :: l.drop (k + 1) := List.drop_eq_getElem_cons (by omega)
  have h2 : l.drop (k + 1) = l[k + 1] :: l.drop (k + 2) := List.drop_eq_getElem_cons h
  rw [h2] at h1
  rw [← h1, List.take_append_drop]

theorem walk_L0 (is : Sl T.Inst) (out : List Int) (hn : stops_Numbers is = some out) (hl : out.length < 2 ^ 60) (hu : Ups out) : ∀ (d k : Nat), k + d = out.length → law26_StopsWalk_L0 (is, (k : Int), out) = some (.inr ()) := by
  intro d
  induction d with
  | zero =>
    intro k hk
    have hw : IntKind.i64.wrap ((k : Int) + 1) = ((k + 1 : Nat) : Int) := wrap_succ (by omega)
    rw [law26_StopsWalk_L0.eq_1, hw, if_neg (by simp; omega)]
  | succ d ih =>
    intro k hk
    have hw : IntKind.i64.wrap ((k : Int) + 1) = ((k + 1 : Nat) : Int) := wrap_succ (by omega)
    rw [law26_StopsWalk_L0.eq_1, hw]
    by_cases hk1 : k + 1 < out.length
    · have hx := geti_some (show k < out.length by omega)
      have hy := geti_some hk1
      have hs := split_at hk1
      generalize out[k] = x at hx hs
      generalize out[k + 1] = y at hy hs
      have hu' := hu
      rw [hs] at hu'
      have n1 : stops_Next x is = some (y, true) := by rw [next_eq x is out hn hl, hs, find_next hu']; rfl
      have p1 : stops_Prev y is = some (x, true) := by rw [prev_eq y is out hn hl, hs, find_prev hu']; rfl
      have hxy := (List.pairwise_cons.1 (List.pairwise_append.1 hu').2.1).1 y (by simp)
      have hx0 : (x == 0) = false := by simpa using hxy.1
      rw [if_pos (by simp; omega)]
      simp only [hx, hy, n1, p1, Option.bind_eq_bind, Option.bind_some, ih (k + 1) (by omega), hx0]
      by_cases hy0 : y = 0
      · simp [hy0]
      · have : ¬ y ≤ x := by rcases hxy.2 with e | e <;> omega
        simp [hy0, this]
    · rw [if_neg (by simp; omega)]

/-! How many spans there are. -/
def cntOf (l : List T.Stop) : Nat := (nsOf l).length

theorem walk_L2 (is : Sl T.Inst) (out : List Int) (hl : out.length < 2 ^ 60) (hi : is.l.length < 2 ^ 60) (hm : many is.l ≤ 20) : ∀ (d k m : Nat), k + d = out.length → m ≤ 20 * k → out.length ≤ 100 →
    law26_StopsWalk_L2 (is, (m : Int), (k : Int), out) = some ((m + ((out.drop k).map fun n => (spAll n is.l).length).sum : Nat) : Int) := by
  intro d
  induction d with
  | zero =>
    intro k m hk _ _
    have h2 : out.drop k = [] := by simp; omega
    rw [law26_StopsWalk_L2.eq_1, h2, if_neg (by simp; omega)]
    simp
  | succ d ih =>
    intro k m hk hmk ho
    have hkl : k < out.length := by omega
    have hx := geti_some hkl
    have hd := List.drop_eq_getElem_cons hkl
    generalize out[k] = x at hx hd
    have hw : IntKind.i64.wrap ((k : Int) + 1) = ((k + 1 : Nat) : Int) := wrap_succ (by omega)
    have hsp : (spAll x is.l).length ≤ 20 := by
      have : ∀ l : List T.Inst, (spAll x l).length ≤ many l := by
        intro l
        induction l with
        | nil => simp [spAll, many]
        | cons i l ih =>
          have := spOf_len x i.stops.l
          simp only [spAll, many, List.flatMap_cons, List.length_append, List.map_cons, List.sum_cons] at ih ⊢
          omega
      have := this is.l
      omega
    have hw2 : IntKind.i64.wrap ((m : Int) + ((spAll x is.l).length : Int)) = ((m + (spAll x is.l).length : Nat) : Int) := by rw [wrap_in (by omega) (by omega)]; omega
    rw [law26_StopsWalk_L2.eq_1, hd, if_pos (by simpa using hkl)]
    simp only [hx, Option.bind_eq_bind, Option.bind_some, hw, spans_eq x is hi (by omega), hw2]
    rw [ih (k + 1) _ (by omega) (by omega) ho]
    simp
    omega

theorem walk_L6 (is : Sl T.Inst) (out : List Int) (i : Nat) (x : T.Inst) (hx : geti is.l i = some x) (hl : x.stops.l.length < 2 ^ 50) : ∀ (d k : Nat) (m : Int), k + d = x.stops.l.length → -1000000 + d ≤ m → m ≤ 1000000 →
    law26_StopsWalk_L6 (is, m, (i : Int), (k : Int), out) = some (m - (nsOf (x.stops.l.drop k)).length) := by
  intro d
  induction d with
  | zero =>
    intro k m hk h1 h2
    have h3 : x.stops.l.drop k = [] := by simp; omega
    rw [law26_StopsWalk_L6.eq_1, h3]
    simp only [hx, Option.bind_eq_bind, Option.bind_some]
    rw [if_neg (by simp; omega)]
    simp [nsOf]
  | succ d ih =>
    intro k m hk h1 h2
    have hkl : k < x.stops.l.length := by omega
    have hy := geti_some hkl
    have hd := List.drop_eq_getElem_cons hkl
    generalize x.stops.l[k] = y at hy hd
    have hw : IntKind.i64.wrap ((k : Int) + 1) = ((k + 1 : Nat) : Int) := wrap_succ (by omega)
    have hw2 : IntKind.i64.wrap (m - 1) = m - 1 := wrap_in (by omega) (by omega)
    rw [law26_StopsWalk_L6.eq_1, hd]
    simp only [hx, Option.bind_eq_bind, Option.bind_some]
    rw [if_pos (by simpa using hkl)]
    simp only [hy, Option.bind_some, hw, hw2]
    cases ht : y.turned with
    | true => rw [if_neg (by simp), ih (k + 1) m (by omega) (by omega) h2]; simp [nsOf, ht]
    | false => rw [if_pos (by simp), ih (k + 1) (m - 1) (by omega) (by omega) (by omega)]; simp [nsOf, ht]; omega

theorem walk_L4 (is : Sl T.Inst) (out : List Int) (hl : is.l.length < 2 ^ 50) (hs : ∀ x ∈ is.l, x.stops.l.length ≤ 1000) : ∀ (d k : Nat) (m : Int), k + d = is.l.length → -1000000 + many (is.l.drop k) ≤ m → m ≤ 1000000 →
    law26_StopsWalk_L4 (is, m, (k : Int), out) = some (m - (nsAll (is.l.drop k)).length) := by
  intro d
  induction d with
  | zero =>
    intro k m hk h1 h2
    have h3 : is.l.drop k = [] := by simp; omega
    rw [law26_StopsWalk_L4.eq_1, h3, if_neg (by simp; omega)]
    simp [nsAll]
  | succ d ih =>
    intro k m hk h1 h2
    have hkl : k < is.l.length := by omega
    have hx := geti_some hkl
    have hmem : is.l[k] ∈ is.l := by simp
    have hd := List.drop_eq_getElem_cons hkl
    generalize is.l[k] = x at hx hd hmem
    rw [hd] at h1 ⊢
    simp only [many, List.map_cons, List.sum_cons] at h1
    have hw : IntKind.i64.wrap ((k : Int) + 1) = ((k + 1 : Nat) : Int) := wrap_succ (by omega)
    have h6 := walk_L6 is out k x hx (by have := hs x hmem; omega) x.stops.l.length 0 m (by omega) (by omega) h2
    simp only [Int.natCast_zero, List.drop_zero] at h6
    have hn := nsOf_len x.stops.l
    rw [law26_StopsWalk_L4.eq_1, if_pos (by simpa using hkl)]
    simp only [h6, Option.bind_eq_bind, Option.bind_some, hw]
    rw [ih (k + 1) _ (by omega) (by simp only [many]; omega) (by omega)]
    simp only [nsAll, List.flatMap_cons, List.length_append]
    congr 1
    omega

/-- Each stop that is not turned is in one number's spans. -/
theorem spAll_len (n : Int) : ∀ l : List T.Inst, (spAll n l).length = ((nsAll l).filter (· == n)).length
  | [] => rfl
  | i :: l => by
    have ih := spAll_len n l
    have h1 : (spOf n i.stops.l).length = ((nsOf i.stops.l).filter (· == n)).length := by
      generalize i.stops.l = s
      induction s with
      | nil => rfl
      | cons x s ih =>
        simp only [spOf, nsOf] at ih ⊢
        cases ht : x.turned <;> cases hn : (x.n == n) <;> simp [ht, hn] at ih ⊢ <;> omega
    simp only [spAll, nsAll, List.flatMap_cons, List.length_append, List.filter_append] at ih ⊢
    omega

theorem filt_two (y : Int) (out : List Int) (h : y ∉ out) : ∀ ns : List Int, (ns.filter (· == y)).length + (ns.filter (fun x => decide (x ∈ out))).length = (ns.filter (fun x => decide (x ∈ y :: out))).length
  | [] => rfl
  | x :: ns => by
    have ih := filt_two y out h ns
    by_cases hxy : x = y
    · subst hxy
      have e2 : decide (x ∈ out) = false := by simpa using h
      simp only [List.filter_cons, beq_self_eq_true, if_true, e2, Bool.false_eq_true, if_false, List.mem_cons, true_or, decide_true, List.length_cons] at ih ⊢
      omega
    · have e1 : (x == y) = false := by simpa using hxy
      by_cases hxo : x ∈ out
      · simp only [List.filter_cons, e1, Bool.false_eq_true, if_false, hxo, decide_true, if_true, List.mem_cons, or_true, List.length_cons] at ih ⊢
        omega
      · simp only [List.filter_cons, e1, Bool.false_eq_true, if_false, hxo, decide_false, List.mem_cons, hxy, or_self] at ih ⊢
        exact ih

theorem sum_filter (ns : List Int) : ∀ (out : List Int), out.Nodup → (out.map fun n => (ns.filter (· == n)).length).sum = (ns.filter (fun x => decide (x ∈ out))).length
  | [], _ => by
    rw [List.filter_eq_nil_iff.2 (by simp)]
    rfl
  | y :: out, hn => by
    obtain ⟨h1, h2⟩ := List.nodup_cons.1 hn
    rw [List.map_cons, List.sum_cons, sum_filter ns out h2, filt_two y out h1]

theorem law_StopsWalk (is : Sl T.Inst) (h1 : slOk T.Inst.ok is) : law26_StopsWalk is = some true := by
  obtain ⟨t, ht, hb⟩ := much_eq is
  have ha : aw7 = some true := rfl
  unfold law26_StopsWalk
  simp only [ht, Option.bind_eq_bind, Option.bind_some]
  cases t with
  | true => simp [ha]
  | false =>
    obtain ⟨b1, b2⟩ := hb rfl
    have hin : ∀ x ∈ nsAll is.l, inI x := by
      intro x hx
      simp only [nsAll, List.mem_flatMap, nsOf, List.mem_map, List.mem_filter] at hx
      obtain ⟨i, hi, s, ⟨hs, _⟩, rfl⟩ := hx
      exact ((h1.2 i hi).2.1.2 s hs).2.1
    obtain ⟨out, p1, p2⟩ := prog_nums is (by omega) (by omega) hin
    have hnl := nsAll_len is.l
    have hlen : out.length ≤ 21 := by
      have := isNums_len p2
      omega
    have hu := nums_ups p2
    have hL0 := walk_L0 is out p1 (by omega) hu out.length 0 (by omega)
    have hL2 := walk_L2 is out (by omega) (by omega) b2 out.length 0 0 (by omega) (by omega) (by omega)
    have hst : ∀ x ∈ is.l, x.stops.l.length ≤ 1000 := fun x hx => by have := many_mem hx; omega
    have hsum : ((out.map fun n => (spAll n is.l).length).sum : Nat) = (nsAll is.l).length := by
      have hnd : out.Nodup := by
        refine hu.imp_of_mem fun {a b} ha hb hab => ?_
        rcases hab.2 with e | e
        · subst e; exact hab.1
        · omega
      have e : (out.map fun n => (spAll n is.l).length) = out.map fun n => ((nsAll is.l).filter (· == n)).length := by
        apply List.map_congr_left
        intro n _
        exact spAll_len n is.l
      rw [e, sum_filter _ out hnd]
      congr 1
      rw [List.filter_eq_self]
      intro x hx
      obtain ⟨r, r1, r2, rfl⟩ := p2.ex
      simp only [decide_eq_true_eq]
      by_cases hx0 : x = 0
      · subst hx0
        rw [if_pos hx]
        simp
      · have := (r2 x).2 ⟨hx, hx0⟩
        split <;> simp [this]
    simp only [Int.natCast_zero, List.drop_zero, Nat.zero_add, hsum] at hL0 hL2
    have hL4 := walk_L4 is out (by omega) hst is.l.length 0 ((nsAll is.l).length : Int) (by omega) (by simp; omega) (by omega)
    simp only [Int.natCast_zero, List.drop_zero, Int.sub_self] at hL4
    simp only [Bool.false_eq_true, if_false, p1, hL0, hL2, hL4, Option.bind_some]
    cases hout : out with
    | nil => simp [ha]
    | cons x r =>
      obtain ⟨pre, y, hpy⟩ : ∃ pre y, out = pre ++ [y] := by
        rcases List.eq_nil_or_concat out with h | ⟨l, b, h⟩
        · rw [hout] at h; cases h
        · exact ⟨l, b, by simpa using h⟩
      have g1 : geti (x :: r) (IntKind.i64.wrap (((x :: r).length : Int) - 1)) = some y := by
        rw [← hout, hpy]
        have hw : IntKind.i64.wrap (((pre ++ [y]).length : Int) - 1) = (pre.length : Int) := by
          have : (pre ++ [y]).length ≤ 21 := by rw [← hpy]; exact hlen
          rw [wrap_in (by omega) (by omega)]
          simp
        rw [hw]
        exact geti_len y [] pre
      have g2 : geti (x :: r) 0 = some x := rfl
      have n1 : stops_Next y is = some (0, false) := by
        rw [next_eq y is out p1 (by omega), hpy, find_last (by rw [← hpy]; exact hu)]
        rfl
      have q1 : stops_Prev x is = some (0, false) := by
        rw [prev_eq x is out p1 (by omega), hout, find_first (by rw [← hout]; exact hu)]
        rfl
      rw [if_neg (by simp; omega)]
      simp only [g1, g2, n1, q1, Option.bind_some]
      simp [ha]

end Go.Proofs.Ytdhgdeelagmbpaa
