/-
  The law StopsRings, on plain data: one order.
-/
import Derived.Test.YtdhgdeelagmbpaaStRgD
set_option linter.unusedSimpArgs false
set_option linter.unusedVariables false
namespace Go.Proofs.Ytdhgdeelagmbpaa
open Go Go.Gm
open Classical in
noncomputable def frB (l : List T.Stop) (told : List Int) (n : Int) : Bool :=
  decide (∀ a x b y, l[a]? = some x → x.n ≠ n → x.n ∉ told → l[b]? = some y → y.n = n → b ∉ ancs l a)

theorem free_eq (l : Sl T.Stop) (n : Int) (told : List Int) (ht : told.length < 1000) (hl : l.l.length ≤ 12) : ref26_free l n told = some (frB l.l told n) := by
  obtain ⟨t, h1, h2⟩ := free_ok l n told ht hl
  rw [h1]
  congr 1
  rw [Bool.eq_iff_iff, h2]
  simp only [frB, decide_eq_true_eq]

theorem ref_L0 (i : T.Inst) (hl : i.stops.l.length ≤ 12) : ∀ (d k : Nat) (all_ : Sl Int), k + d = i.stops.l.length → Rise all_.l → (∀ x, x ∈ all_.l ↔ x ∈ (i.stops.l.take k).map (·.n)) → all_.l.length ≤ k →
    ∃ r, ref26_Order_L0 (all_, (k : Int), i) = some r ∧ Rise r.l ∧ (∀ x, x ∈ r.l ↔ x ∈ i.stops.l.map (·.n)) ∧ r.l.length ≤ 12 := by
  intro d
  induction d with
  | zero =>
    intro k all_ hk h1 h2 h3
    obtain rfl : k = i.stops.l.length := by omega
    rw [List.take_length] at h2
    exact ⟨all_, by rw [ref26_Order_L0.eq_1, if_neg (by simp)], h1, h2, by omega⟩
  | succ d ih =>
    intro k all_ hk h1 h2 h3
    have hkl : k < i.stops.l.length := by omega
    have hx := geti_some hkl
    have ht : i.stops.l.take (k + 1) = i.stops.l.take k ++ [i.stops.l[k]] := by rw [List.take_append_getElem]
    generalize i.stops.l[k] = x at hx ht
    have hw : IntKind.i64.wrap ((k : Int) + 1) = ((k + 1 : Nat) : Int) := wrap_succ (by omega)
    obtain ⟨o, g1, g2, g3, g4⟩ := put_ok all_ x.n (by omega) h1
    rw [ref26_Order_L0.eq_1, if_pos (by simp; omega)]
    simp only [hx, g1, Option.bind_eq_bind, Option.bind_some, hw]
    refine ih (k + 1) o (by omega) g2 (fun q => ?_) (by omega)
    rw [g3, h2, ht]
    simp [or_comm]

theorem ref_L4 (all_ : Sl Int) (i : T.Inst) (told : List Int) (ht : told.length < 1000) (hl : i.stops.l.length ≤ 12) (ha : all_.l.length ≤ 1000) (next : Int) : ∀ (d k : Nat), k + d = all_.l.length →
    ref26_Order_L4 (all_, next, false, (k : Int), i, told) = some (match (all_.l.drop k).find? (fun x => decide (x ∉ told) && frB i.stops.l told x) with | some x => (x, true) | none => (next, false)) := by
  intro d
  induction d with
  | zero =>
    intro k hk
    rw [ref26_Order_L4.eq_1, if_neg (by simp; omega), List.drop_of_length_le (by omega)]
    rfl
  | succ d ih =>
    intro k hk
    have hkl : k < all_.l.length := by omega
    have hx := geti_some hkl
    have hd : all_.l.drop k = all_.l[k] :: all_.l.drop (k + 1) := List.drop_eq_getElem_cons hkl
    generalize all_.l[k] = x at hx hd
    have hw : IntKind.i64.wrap ((k : Int) + 1) = ((k + 1 : Nat) : Int) := wrap_succ (by omega)
    have hend : ref26_Order_L4 (all_, x, true, (k : Int) + 1, i, told) = some (x, true) := by
      rw [ref26_Order_L4.eq_1, if_neg (by simp)]
    rw [ref26_Order_L4.eq_1, if_pos (by simp; omega), hd, List.find?_cons]
    simp only [hx, among_ok x told ht, free_eq i.stops x told ht hl, Option.bind_eq_bind, Option.bind_some, hw]
    by_cases hm : x ∈ told
    · simp only [hm, decide_true, Bool.not_true, Bool.false_eq_true, if_false, not_true_eq_false, decide_false, Bool.false_and]
      exact ih (k + 1) (by omega)
    · cases hf : frB i.stops.l told x with
      | true => simp [hm, hend]
      | false =>
        simp only [hm, decide_false, Bool.not_false, if_true, not_false_eq_true, decide_true, Bool.and_false, Bool.false_eq_true, if_false]
        exact ih (k + 1) (by omega)
theorem ref_L6 (all_ : Sl Int) (i : T.Inst) (told : List Int) (ht : told.length < 1000) (ha : all_.l.length ≤ 1000) (next : Int) : ∀ (d k : Nat), k + d = all_.l.length →
    ref26_Order_L6 (all_, next, false, (k : Int), i, told) = some (match (all_.l.drop k).find? (fun x => decide (x ∉ told)) with | some x => x | none => next) := by
  intro d
  induction d with
  | zero =>
    intro k hk
    rw [ref26_Order_L6.eq_1, if_neg (by simp; omega), List.drop_of_length_le (by omega)]
    rfl
  | succ d ih =>
    intro k hk
    have hkl : k < all_.l.length := by omega
    have hx := geti_some hkl
    have hd : all_.l.drop k = all_.l[k] :: all_.l.drop (k + 1) := List.drop_eq_getElem_cons hkl
    generalize all_.l[k] = x at hx hd
    have hw : IntKind.i64.wrap ((k : Int) + 1) = ((k + 1 : Nat) : Int) := wrap_succ (by omega)
    have hend : ref26_Order_L6 (all_, x, true, (k : Int) + 1, i, told) = some x := by
      rw [ref26_Order_L6.eq_1, if_neg (by simp)]
    rw [ref26_Order_L6.eq_1, if_pos (by simp; omega), hd, List.find?_cons]
    simp only [hx, among_ok x told ht, Option.bind_eq_bind, Option.bind_some, hw]
    by_cases hm : x ∈ told
    · simp only [hm, decide_true, Bool.not_true, Bool.false_eq_true, if_false, not_true_eq_false, decide_false]
      exact ih (k + 1) (by omega)
    · simp [hm, hend]

/-- What both take next. -/
def pickN (K : List Int) (p : Int → Bool) : Int := match K.find? p with | some x => x | none => K.headD 0

theorem ref_next (all_ : Sl Int) (i : T.Inst) (told : List Int) (ht : told.length < 1000) (hl : i.stops.l.length ≤ 12) (ha : all_.l.length ≤ 1000) :
    ((ref26_Order_L4 (all_, 0, false, 0, i, told)).bind fun v3 => ref26_Order_L6 (all_, v3.1, v3.2, 0, i, told)) = some (pickN (all_.l.filter fun x => decide (x ∉ told)) (frB i.stops.l told)) := by
  have h4 := ref_L4 all_ i told ht hl ha 0 all_.l.length 0 (by omega)
  have h6 := ref_L6 all_ i told ht ha 0 all_.l.length 0 (by omega)
  simp only [Int.natCast_zero, List.drop_zero] at h4 h6
  rw [h4]
  unfold pickN
  have hp : (all_.l.filter fun x => decide (x ∉ told)).find? (frB i.stops.l told) = all_.l.find? (fun x => decide (x ∉ told) && frB i.stops.l told x) := by
    rw [List.find?_filter]
    congr 1
    funext a
    by_cases h : a ∈ told <;> cases hh : frB i.stops.l told a <;> simp [h]
  rw [hp]
  cases hf : all_.l.find? (fun x => decide (x ∉ told) && frB i.stops.l told x) with
  | some x =>
    simp only [Option.bind_some]
    rw [ref26_Order_L6.eq_1, if_neg (by simp)]
  | none =>
    simp only [Option.bind_some, h6]
    rw [← List.head?_filter]
    cases all_.l.filter fun x => decide (x ∉ told) <;> rfl

theorem idx_L0 (s : Sl Int) (m : MapII) (hl : s.l.length < 1000) : ∀ (d k : Nat), k + d = s.l.length →
    (∃ (j : Nat) (x : Int), slices_IndexFunc_Lint_stops_Order_1_L0 (s, (s.l.length : Int), (k : Int), m) = some (.inl (j : Int)) ∧ s.l[j]? = some x ∧ (s.l.drop k).find? (fun n => mget m n == 0) = some x) ∨
    (slices_IndexFunc_Lint_stops_Order_1_L0 (s, (s.l.length : Int), (k : Int), m) = some (.inr ()) ∧ (s.l.drop k).find? (fun n => mget m n == 0) = none) := by
  intro d
  induction d with
  | zero =>
    intro k hk
    refine .inr ⟨?_, ?_⟩
    · rw [slices_IndexFunc_Lint_stops_Order_1_L0.eq_1, if_neg (by simp; omega)]
    · rw [List.drop_of_length_le (by omega)]; rfl
  | succ d ih =>
    intro k hk
    have hkl : k < s.l.length := by omega
    have hx := geti_some hkl
    have hx2 : s.l[k]? = some s.l[k] := by simp [hkl]
    have hd : s.l.drop k = s.l[k] :: s.l.drop (k + 1) := List.drop_eq_getElem_cons hkl
    generalize s.l[k] = x at hx hd hx2
    have hw : IntKind.i64.wrap ((k : Int) + 1) = ((k + 1 : Nat) : Int) := wrap_succ (by omega)
    rw [slices_IndexFunc_Lint_stops_Order_1_L0.eq_1, if_pos (by simp; omega), hd, List.find?_cons]
    simp only [hx, stops_Order_1, Option.bind_eq_bind, Option.bind_some, hw]
    cases hm : mget m x == 0 with
    | true => exact .inl ⟨k, x, rfl, hx2, rfl⟩
    | false => simpa using ih (k + 1) (by omega)
end Go.Proofs.Ytdhgdeelagmbpaa
