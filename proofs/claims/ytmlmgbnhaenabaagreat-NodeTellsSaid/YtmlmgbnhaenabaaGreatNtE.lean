/-
  Expressions, formats that may be: the program's word is the document's.
-/
import Derived.Test.YtmlmgbnhaenabaaGreatNtD
set_option linter.unusedSimpArgs false
set_option linter.unusedVariables false
namespace Go.Proofs.YtmlmgbnhaenabaaGreat
open Go Go.Gm

/-! How many parts, how deep. -/
def maxN : List Nat → Nat
  | [] => 0
  | a :: r => max a (maxN r)
def isGr (k : Int) : Bool := k == 5 || k == 6
mutual
def rxP : T.Rx → Nat
  | ⟨_, _, _, _, _, _, _, kids⟩ => 1 + rxPS kids
def rxPS : Sl T.Rx → Nat
  | ⟨_, l⟩ => rxPL l
def rxPL : List T.Rx → Nat
  | [] => 0
  | x :: r => rxP x + rxPL r
end
theorem rxPL_sum : ∀ l : List T.Rx, rxPL l = sumN (l.map rxP)
  | [] => by simp [rxPL, sumN]
  | x :: r => by simp [rxPL, sumN, rxPL_sum r]
theorem rxP_eq (x : T.Rx) : rxP x = 1 + sumN (x.kids.l.map rxP) := by
  cases x with | mk a b c d e f g h => cases h; simp [rxP, rxPS, rxPL_sum]
mutual
def rxD : T.Rx → Nat
  | ⟨k, _, _, _, _, _, _, kids⟩ => (if isGr k then 1 else 0) + rxDS kids
def rxDS : Sl T.Rx → Nat
  | ⟨_, l⟩ => rxDL l
def rxDL : List T.Rx → Nat
  | [] => 0
  | x :: r => max (rxD x) (rxDL r)
end
theorem rxDL_max : ∀ l : List T.Rx, rxDL l = maxN (l.map rxD)
  | [] => by simp [rxDL, maxN]
  | x :: r => by simp [rxDL, maxN, rxDL_max r]
theorem rxD_eq (x : T.Rx) : rxD x = (if isGr x.kind then 1 else 0) + maxN (x.kids.l.map rxD) := by
  cases x with | mk a b c d e f g h => cases h; simp [rxD, rxDS, rxDL_max]
theorem sumN_le {α : Type} {f g : α → Nat} : ∀ {l : List α}, (∀ a ∈ l, f a ≤ g a) → sumN (l.map f) ≤ sumN (l.map g)
  | [], _ => by simp [sumN]
  | a :: l, h => by
    have h1 := h a (by simp)
    have h2 := sumN_le (l := l) (fun b hb => h b (by simp [hb]))
    simp only [List.map_cons, sumN]
    omega
theorem maxN_le_sum {α : Type} {f g : α → Nat} : ∀ {l : List α}, (∀ a ∈ l, f a ≤ g a) → maxN (l.map f) ≤ sumN (l.map g)
  | [], _ => by simp [maxN]
  | a :: l, h => by
    have h1 := h a (by simp)
    have h2 := maxN_le_sum (l := l) (fun b hb => h b (by simp [hb]))
    simp only [List.map_cons, sumN, maxN]
    omega
theorem rxP_le : ∀ x : T.Rx, rxP x ≤ rxW x := by
  apply rx_ind
  intro x ih
  have := sumN_le ih
  rw [rxP_eq, rxW_eq]
  omega
theorem rxD_le : ∀ x : T.Rx, rxD x ≤ rxP x := by
  apply rx_ind
  intro x ih
  have := maxN_le_sum ih
  rw [rxP_eq, rxD_eq]
  split <;> omega

abbrev Light (x : T.Rx) : Prop := rxW x ≤ 1099511627776
theorem light_kid {x y : T.Rx} (h : Light x) (hy : y ∈ x.kids.l) : Light y := by have := rxW_kid hy; unfold Light at *; omega
theorem parts_ok : ∀ x : T.Rx, Light x → ref13_Parts x = some (rxP x : Int) := by
  apply rx_ind (P := fun x => Light x → ref13_Parts x = some (rxP x : Int))
  intro x ih0 hw
  have hk := rxW_kids x
  have hp := rxP_le x
  have key : ∀ (r : List T.Rx) (k n : Nat), x.kids.l.drop k = r → n + sumN (r.map rxP) ≤ 1099511627776 → ref13_Parts_L0 ((n : Int), (k : Int), x) = some ((n + sumN (r.map rxP) : Nat) : Int) := by
    intro r
    induction r with
    | nil =>
      intro k n hd _
      have hn := dropN hd
      rw [ref13_Parts_L0.eq_1, if_neg (by simpa using hn)]
      simp [sumN]
    | cons y r ih =>
      intro k n hd hn
      obtain ⟨a1, a2, a3, a4⟩ := dropC hd
      simp only [List.map_cons, sumN] at hn
      have e : IntKind.i64.wrap ((n : Int) + (rxP y : Int)) = ((n + rxP y : Nat) : Int) := by rw [wr (by omega) (by omega)]; omega
      rw [ref13_Parts_L0.eq_1]
      simp only [a1, decide_true, if_true, a2, Option.bind_eq_bind, Option.bind_some, ih0 y a4 (light_kid hw a4), wrS (by unfold Light at hw; omega) a1, e]
      rw [ih (k + 1) (n + rxP y) a3 (by omega)]
      simp only [List.map_cons, sumN, Option.some.injEq, Int.natCast_inj]
      omega
  rw [ref13_Parts.eq_1]
  have h := key x.kids.l 0 1 rfl (by have := rxP_eq x; unfold Light at hw; omega)
  rw [show ((1 : Int), (0 : Int), x) = (((1 : Nat) : Int), ((0 : Nat) : Int), x) from rfl, h, rxP_eq]
  rfl
theorem deep_ok : ∀ x : T.Rx, Light x → ref13_Deep x = some (rxD x : Int) := by
  apply rx_ind (P := fun x => Light x → ref13_Deep x = some (rxD x : Int))
  intro x ih0 hw
  have hk := rxW_kids x
  have hp := rxP_le x
  have hd := rxD_le x
  have key : ∀ (r : List T.Rx) (k n : Nat), x.kids.l.drop k = r → ref13_Deep_L0 ((n : Int), (k : Int), x) = some ((max n (maxN (r.map rxD)) : Nat) : Int) := by
    intro r
    induction r with
    | nil =>
      intro k n hd
      have hn := dropN hd
      rw [ref13_Deep_L0.eq_1, if_neg (by simpa using hn)]
      simp [maxN]
    | cons y r ih =>
      intro k n hd
      obtain ⟨a1, a2, a3, a4⟩ := dropC hd
      have e : (if (rxD y : Int) > (n : Int) then (rxD y : Int) else (n : Int)) = ((max n (rxD y) : Nat) : Int) := by split <;> omega
      rw [ref13_Deep_L0.eq_1]
      simp only [a1, decide_true, if_true, a2, Option.bind_eq_bind, Option.bind_some, ih0 y a4 (light_kid hw a4), wrS (by unfold Light at hw; omega) a1, e]
      rw [ih (k + 1) (max n (rxD y)) a3]
      simp only [List.map_cons, maxN, Option.some.injEq, Int.natCast_inj]
      omega
  rw [ref13_Deep.eq_1]
  have h := key x.kids.l 0 0 rfl
  rw [show ((0 : Int), (0 : Int), x) = (((0 : Nat) : Int), ((0 : Nat) : Int), x) from rfl, h]
  have hde := rxD_eq x
  unfold isGr at hde
  simp only [Option.bind_eq_bind, Option.bind_some, Nat.zero_max]
  unfold Light at hw
  cases hg : (x.kind == 5 || x.kind == 6)
  · rw [hg] at hde
    simp [hde]
  · rw [hg] at hde
    have e : IntKind.i64.wrap ((maxN (x.kids.l.map rxD) : Int) + 1) = (rxD x : Int) := by rw [wr (by simp at hde; omega) (by simp at hde; omega)]; simp at hde; omega
    simp [e]

/-! Which kinds are among the kids. -/
theorem contains2 (v : Int) : slices_Contains_Lint (⟨false, [(0 : Int), (1 : Int)]⟩ : Sl Int) v = some (v == 0 || v == 1) := by
  have w1 : IntKind.i64.wrap 1 = 1 := by decide
  have w2 : IntKind.i64.wrap 2 = 2 := by decide
  unfold slices_Contains_Lint slices_Index_Lint
  rw [slices_Index_Lint_L0.eq_1]
  by_cases h : v = 0
  · simp [geti, h]
  · simp only [geti, h, Int.zero_add, w1]
    rw [slices_Index_Lint_L0.eq_1]
    by_cases h1 : v = 1
    · simp [geti, h1, w1]
    · simp only [geti, Int.reduceAdd, w2]
      rw [slices_Index_Lint_L0.eq_1]
      simp [h, h1]
theorem contains1 (v : Int) : slices_Contains_Lint (⟨false, [(1 : Int)]⟩ : Sl Int) v = some (v == 1) := by
  have w1 : IntKind.i64.wrap 1 = 1 := by decide
  unfold slices_Contains_Lint slices_Index_Lint
  rw [slices_Index_Lint_L0.eq_1]
  by_cases h1 : v = 1
  · simp [geti, h1]
  · simp only [geti, Int.zero_add, w1]
    rw [slices_Index_Lint_L0.eq_1]
    simp [h1]
theorem some_L0 (x : T.Rx) (ks : Sl Int) (p : Int → Bool) (hp : ∀ v, slices_Contains_Lint ks v = some (p v)) (hl : x.kids.l.length ≤ 9223372036854775807) : ∀ (r : List T.Rx) (k : Nat), x.kids.l.drop k = r →
    (∃ i : Nat, slices_IndexFunc_LRx_rxtree_some_1_L0 (x.kids, (x.kids.l.length : Int), (k : Int), ks) = some (.inl (i : Int)) ∧ r.any (fun y => p y.kind) = true) ∨
    (slices_IndexFunc_LRx_rxtree_some_1_L0 (x.kids, (x.kids.l.length : Int), (k : Int), ks) = some (.inr ()) ∧ r.any (fun y => p y.kind) = false) := by
  intro r
  induction r with
  | nil =>
    intro k hk
    right
    rw [slices_IndexFunc_LRx_rxtree_some_1_L0.eq_1, if_neg (by simpa using dropN hk)]
    exact ⟨rfl, rfl⟩
  | cons y r ih =>
    intro k hk
    obtain ⟨a1, a2, a3, a4⟩ := dropC hk
    rw [slices_IndexFunc_LRx_rxtree_some_1_L0.eq_1]
    simp only [a1, decide_true, if_true, a2, Option.bind_eq_bind, Option.bind_some, wrS hl a1, rxtree_some_1, hp, List.any_cons]
    cases p y.kind
    · rcases ih (k + 1) a3 with ⟨i, h1, h2⟩ | ⟨h1, h2⟩
      · left; exact ⟨i, h1, by simpa using h2⟩
      · right; exact ⟨h1, by simpa using h2⟩
    · left; exact ⟨k, rfl, rfl⟩
theorem some_ok (x : T.Rx) (ks : Sl Int) (p : Int → Bool) (hp : ∀ v, slices_Contains_Lint ks v = some (p v)) (hl : x.kids.l.length ≤ 9223372036854775807) : rxtree_some x.kids ks = some (x.kids.l.any (fun y => p y.kind)) := by
  unfold rxtree_some slices_ContainsFunc_LRx_rxtree_some_1 slices_IndexFunc_LRx_rxtree_some_1
  have h := some_L0 x ks p hp hl x.kids.l 0 rfl
  rw [show ((0 : Nat) : Int) = 0 from rfl] at h
  rcases h with ⟨i, h1, h2⟩ | ⟨h1, h2⟩
  · rw [h1, h2]; simp
  · rw [h1, h2]; rfl
theorem may_L3 (x : T.Rx) (hl : x.kids.l.length ≤ 9223372036854775807) : ∀ (r : List T.Rx) (k : Nat), x.kids.l.drop k = r →
    ref13_may_L3 ((x.kids.l.length : Int), (k : Int), x) = some (lr (!r.any (fun y => y.kind == 0 || y.kind == 1))) := by
  intro r
  induction r with
  | nil =>
    intro k hk
    rw [ref13_may_L3.eq_1, if_neg (by simpa using dropN hk)]; rfl
  | cons y r ih =>
    intro k hk
    obtain ⟨a1, a2, a3, a4⟩ := dropC hk
    rw [ref13_may_L3.eq_1]
    simp only [a1, decide_true, if_true, a2, Option.bind_eq_bind, Option.bind_some, wrS hl a1, List.any_cons, ih (k + 1) a3]
    cases (y.kind == 0)
    · cases (y.kind == 1) <;> simp [lr]
    · simp [lr]
theorem may_L5 (x : T.Rx) (hl : x.kids.l.length ≤ 9223372036854775807) : ∀ (r : List T.Rx) (k : Nat), x.kids.l.drop k = r →
    ref13_may_L5 ((x.kids.l.length : Int), (k : Int), x) = some (lr (!r.any (fun y => y.kind == 1))) := by
  intro r
  induction r with
  | nil =>
    intro k hk
    rw [ref13_may_L5.eq_1, if_neg (by simpa using dropN hk)]; rfl
  | cons y r ih =>
    intro k hk
    obtain ⟨a1, a2, a3, a4⟩ := dropC hk
    rw [ref13_may_L5.eq_1]
    simp only [a1, decide_true, if_true, a2, Option.bind_eq_bind, Option.bind_some, wrS hl a1, List.any_cons, ih (k + 1) a3]
    cases (y.kind == 1) <;> simp [lr]
theorem bare_ok (x : T.Rx) : ∃ c, rxtree_bare x = some c ∧ ref13_bare x = some c := by
  unfold rxtree_bare ref13_bare
  split
  · exact ⟨_, rfl, rfl⟩
  · exact ⟨_, rfl, rfl⟩
theorem bareTF (x : T.Rx) : rxtree_bare x = ref13_bare x := rfl
/-- What a part has besides its kids. -/
theorem fields_ok (x : T.Rx) (hw : Light x) : ∃ f, rxtree_fields x = some f ∧ ∀ c, ref13_may_L0 ((x.kids.l.length : Int), (0 : Int), x) = some (lr c) → ref13_may x = some (c && f) := by
  have hk := rxW_kids x
  unfold Light at hw
  have hl : x.kids.l.length ≤ 9223372036854775807 := by omega
  have h3 := may_L3 x hl x.kids.l 0 rfl
  have h5 := may_L5 x hl x.kids.l 0 rfl
  rw [show ((0 : Nat) : Int) = 0 from rfl] at h3 h5
  have hs2 := some_ok x _ _ contains2 hl
  have hs1 := some_ok x _ _ contains1 hl
  obtain ⟨b0, p0, q0⟩ := bare_ok x
  -- what is not a repeat
  suffices h : ∃ f, rxtree_fields x = some f ∧ (ref13_may_L0 ((x.kids.l.length : Int), (0 : Int), x) = some (.inr ()) → ref13_may x = some f) by
    obtain ⟨f, f1, f2⟩ := h
    refine ⟨f, f1, fun c hc => ?_⟩
    cases c
    · rw [ref13_may.eq_1, hc]; rfl
    · simpa using f2 hc
  unfold rxtree_fields
  by_cases k2 : x.kind = 2
  · obtain ⟨b1, p1, q1⟩ := bare_ok (T.Rx.mk x.kind ([] : Bytes) x.not x.rows x.min x.max x.lazy x.kids)
    have hc : x.char.length ≤ 1099511627776 := by have := rxW_eq x; omega
    have e1 := proper1 x.char hc
    have e2 := proper2 x.char hc
    refine ⟨b1 && (x.kids.l.length : Int) == 0 && properB x.char, ?_, fun hc => ?_⟩
    · rw [k2] at p1
      simp only [k2, beq_self_eq_true, if_true, p1, e1, Option.bind_eq_bind, Option.bind_some]
      cases b1 <;> cases ((x.kids.l.length : Int) == 0) <;> rfl
    · rw [ref13_may.eq_1, hc]
      rw [k2] at q1
      simp only [k2, Option.bind_eq_bind, Option.bind_some, Int.reduceBEq, if_true, Bool.false_eq_true, if_false, q1, e2]
      cases b1 <;> cases ((x.kids.l.length : Int) == 0) <;> rfl
  by_cases k4 : x.kind = 4
  · obtain ⟨b1, p1, q1⟩ := bare_ok (T.Rx.mk x.kind x.char false (⟨true, ([] : List T.Row)⟩ : (Sl T.Row)) x.min x.max x.lazy x.kids)
    obtain ⟨cr, e1, e2⟩ := rowsMay x.rows (by have := rxW_eq x; omega)
    refine ⟨b1 && (x.kids.l.length : Int) == 0 && cr, ?_, fun hc => ?_⟩
    · rw [k4] at p1
      simp only [k4, Int.reduceBEq, Bool.false_eq_true, if_false, if_true, p1, e1, Option.bind_eq_bind, Option.bind_some]
      cases b1 <;> cases ((x.kids.l.length : Int) == 0) <;> rfl
    · rw [ref13_may.eq_1, hc]
      rw [k4] at q1
      simp only [k4, Option.bind_eq_bind, Option.bind_some, Int.reduceBEq, Bool.or_self, if_true, Bool.false_eq_true, if_false, q1, e2]
      cases b1 <;> cases ((x.kids.l.length : Int) == 0) <;> rfl
  by_cases k7 : x.kind = 7
  · obtain ⟨b1, p1, q1⟩ := bare_ok (T.Rx.mk x.kind x.char x.not x.rows (0 : Int) (0 : Int) false x.kids)
    rw [k7] at p1 q1
    by_cases h1 : x.kids.l.length = 1
    · have hg : geti x.kids.l (0 : Int) = some x.kids.l[0] := geti_some (n := 0) (by omega)
      generalize x.kids.l[0] = y at hg
      have e1 : ((x.kids.l.length : Int) == 1) = true := by simp [h1]
      have hrep : rxtree_repeated y.kind = some (y.kind == 2 || (y.kind == 3 || (y.kind == 4 || (y.kind == 5 || y.kind == 6)))) := by
        unfold rxtree_repeated; cases (y.kind == 2 || (y.kind == 3 || (y.kind == 4 || (y.kind == 5 || y.kind == 6)))) <;> rfl
      refine ⟨b1 && (y.kind == 2 || (y.kind == 3 || (y.kind == 4 || (y.kind == 5 || y.kind == 6)))) && (decide (x.min ≥ 0) && decide (x.min ≤ 255)) && (x.max == -1 || (decide (x.max ≥ x.min) && decide (x.max ≤ 255))), ?_, fun hc => ?_⟩
      · simp only [k7, Int.reduceBEq, Bool.false_eq_true, if_false, if_true, p1, e1, hg, hrep, Option.bind_eq_bind, Option.bind_some]
        generalize decide (x.min ≥ 0) = u1
        generalize decide (x.min ≤ 255) = u2
        generalize decide (x.max ≥ x.min) = u3
        generalize decide (x.max ≤ 255) = u4
        generalize (x.max == -1) = u5
        generalize (y.kind == 2 || (y.kind == 3 || (y.kind == 4 || (y.kind == 5 || y.kind == 6)))) = v1
        clear p1 q1
        revert b1 u1 u2 u3 u4 u5 v1
        decide
      · rw [ref13_may.eq_1, hc]
        simp only [k7, Option.bind_eq_bind, Option.bind_some, Int.reduceBEq, Bool.or_self, Bool.false_eq_true, if_false, if_true, ref13_repeat, hg, q1]
        have e1' : ((x.kids.l.length : Int) != 1) = false := by simp [h1]
        have m1 : decide (x.min < 0) = !decide (x.min ≥ 0) := by by_cases h : x.min ≥ 0 <;> simp [h] <;> omega
        have m2 : decide (x.min > 255) = !decide (x.min ≤ 255) := by by_cases h : x.min ≤ 255 <;> simp [h] <;> omega
        have m3 : decide (x.max < x.min) = !decide (x.max ≥ x.min) := by by_cases h : x.max ≥ x.min <;> simp [h] <;> omega
        have m4 : decide (x.max > 255) = !decide (x.max ≤ 255) := by by_cases h : x.max ≤ 255 <;> simp [h] <;> omega
        simp only [m1, m2, m3, m4, bne, e1, Bool.not_true, Bool.false_or]
        generalize decide (x.min ≥ 0) = u1
        generalize decide (x.min ≤ 255) = u2
        generalize decide (x.max ≥ x.min) = u3
        generalize decide (x.max ≤ 255) = u4
        generalize (x.max == -1) = u5
        generalize (y.kind == 2) = v1
        generalize (y.kind == 3) = v2
        generalize (y.kind == 4) = v3
        generalize (y.kind == 5) = v4
        generalize (y.kind == 6) = v5
        clear p1 q1 m1 m2 m3 m4 hrep
        cases v1 <;> cases v2 <;> cases v3 <;> cases v4 <;> revert b1 u1 u2 u3 u4 u5 v5 <;> decide
    · refine ⟨false, ?_, fun hc => ?_⟩
      · have e1 : ((x.kids.l.length : Int) == 1) = false := by simp; omega
        simp only [k7, Int.reduceBEq, Bool.false_eq_true, if_false, if_true, p1, e1, Bool.and_false, Option.bind_eq_bind, Option.bind_some]
      · rw [ref13_may.eq_1, hc]
        have e1' : ((x.kids.l.length : Int) != 1) = true := by simp; omega
        simp only [k7, Option.bind_eq_bind, Option.bind_some, Int.reduceBEq, Bool.or_self, Bool.false_eq_true, if_false, if_true, ref13_repeat, e1', Bool.true_or]
  by_cases k0 : x.kind = 0
  · refine ⟨b0 && (x.kids.l.length : Int) != 1 && !(x.kids.l.any (fun y => y.kind == 0 || y.kind == 1)), ?_, fun hc => ?_⟩
    · simp only [k0, Int.reduceBEq, Bool.false_eq_true, if_false, if_true, p0, hs2, Option.bind_eq_bind, Option.bind_some]
      cases b0 <;> cases ((x.kids.l.length : Int) != 1) <;> rfl
    · rw [ref13_may.eq_1, hc]
      simp only [k0, Option.bind_eq_bind, Option.bind_some, beq_self_eq_true, if_true, h3, q0]
      cases b0 <;> cases (x.kids.l.any (fun y => y.kind == 0 || y.kind == 1)) <;> cases ((x.kids.l.length : Int) != 1) <;> rfl
  by_cases k1 : x.kind = 1
  · refine ⟨b0 && decide ((x.kids.l.length : Int) > 1) && !(x.kids.l.any (fun y => y.kind == 1)), ?_, fun hc => ?_⟩
    · simp only [k1, Int.reduceBEq, Bool.false_eq_true, if_false, if_true, p0, hs1, Option.bind_eq_bind, Option.bind_some]
      cases b0 <;> cases decide ((x.kids.l.length : Int) > 1) <;> rfl
    · rw [ref13_may.eq_1, hc]
      have e : decide ((x.kids.l.length : Int) ≥ 2) = decide ((x.kids.l.length : Int) > 1) := by by_cases h : (x.kids.l.length : Int) > 1 <;> simp [h] <;> omega
      simp only [k1, Option.bind_eq_bind, Option.bind_some, Int.reduceBEq, Bool.false_eq_true, if_false, if_true, h5, q0, e]
      cases b0 <;> cases (x.kids.l.any (fun y => y.kind == 1)) <;> cases decide ((x.kids.l.length : Int) > 1) <;> rfl
  have n2 : (x.kind == 2) = false := by simpa using k2
  have n4 : (x.kind == 4) = false := by simpa using k4
  have n7 : (x.kind == 7) = false := by simpa using k7
  have n0 : (x.kind == 0) = false := by simpa using k0
  have n1 : (x.kind == 1) = false := by simpa using k1
  simp only [n2, n4, n7, n0, n1, Bool.false_eq_true, if_false]
  cases k56 : (x.kind == 5 || x.kind == 6)
  · cases k38 : (x.kind == 3 || (x.kind == 8 || (x.kind == 9 || (x.kind == 10 || x.kind == 11))))
    · refine ⟨false, rfl, fun hc => ?_⟩
      rw [ref13_may.eq_1, hc]
      simp only [n2, n4, n7, n0, n1, k56, k38, Bool.false_eq_true, if_false, Option.bind_eq_bind, Option.bind_some]
    · refine ⟨b0 && (x.kids.l.length : Int) == 0, ?_, fun hc => ?_⟩
      · simp only [p0, Bool.false_eq_true, if_false, if_true, Option.bind_eq_bind, Option.bind_some]
        cases b0 <;> rfl
      · rw [ref13_may.eq_1, hc]
        simp only [n2, n4, n7, n0, n1, k56, k38, q0, Bool.false_eq_true, if_false, if_true, Option.bind_eq_bind, Option.bind_some]
        cases b0 <;> rfl
  · have k38 : (x.kind == 3 || (x.kind == 8 || (x.kind == 9 || (x.kind == 10 || x.kind == 11)))) = false := by
      simp at k56 ⊢; omega
    refine ⟨b0 && (x.kids.l.length : Int) == 1, ?_, fun hc => ?_⟩
    · simp only [p0, if_true, Option.bind_eq_bind, Option.bind_some]
      cases b0 <;> rfl
    · rw [ref13_may.eq_1, hc]
      simp only [n2, n4, n7, n0, n1, k56, k38, q0, Bool.false_eq_true, if_false, if_true, Option.bind_eq_bind, Option.bind_some]
      cases b0 <;> rfl
end Go.Proofs.YtmlmgbnhaenabaaGreat
