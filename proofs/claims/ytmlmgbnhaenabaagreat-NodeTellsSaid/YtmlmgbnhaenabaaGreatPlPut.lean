/-
  The list of numbers that the document puts together.
-/
import Derived.Test.YtmlmgbnhaenabaaGreatPlMap
set_option linter.unusedSimpArgs false
set_option linter.unusedVariables false
namespace Go.Proofs.YtmlmgbnhaenabaaGreat
open Go Go.Gm

theorem room_ok {n b : Nat} (h : n ≤ 1099511627776) (hb : b ≤ 64) : roomOK n b = true := by
  simp only [roomOK, Bool.and_eq_true, decide_eq_true_eq]
  refine ⟨⟨?_, by omega⟩, by omega⟩
  calc n * b ≤ n * 64 := Nat.mul_le_mul_left _ hb
    _ ≤ 2 ^ 46 := by omega

/-! The document's. -/
theorem put_L0 (ns : Sl Int) (n : Int) (hl : ns.l.length < 2 ^ 60) : ∀ (d k : Nat), k + d = ns.l.length → (∀ j x, j < k → ns.l[j]? = some x → x < n) →
    ∃ p : Nat, ref20_Put_L0 (ns, n, (k : Int)) = some (p : Int) ∧ p ≤ ns.l.length ∧ (∀ j x, j < p → ns.l[j]? = some x → x < n) ∧ (∀ x, ns.l[p]? = some x → n ≤ x) := by
  intro d
  induction d with
  | zero =>
    intro k hk hj
    obtain rfl : k = ns.l.length := by omega
    refine ⟨ns.l.length, ?_, Nat.le_refl _, hj, by simp⟩
    rw [ref20_Put_L0.eq_1]
    simp
  | succ d ih =>
    intro k hk hj
    have hkl : k < ns.l.length := by omega
    have hx := geti_some hkl
    have hx' : ns.l[k]? = some ns.l[k] := by simp [hkl]
    generalize ns.l[k] = x at hx hx'
    have hw : IntKind.i64.wrap ((k : Int) + 1) = ((k + 1 : Nat) : Int) := wrap_succ (by omega)
    rw [ref20_Put_L0.eq_1]
    simp only [hx, Option.bind_eq_bind, Option.bind_some, hw]
    by_cases h : x < n
    · obtain ⟨p, h1, h2⟩ := ih (k + 1) (by omega) (fun j y hjk hy => by
        by_cases e : j = k
        · subst e; rw [hx'] at hy; cases hy; exact h
        · exact hj j y (by omega) hy)
      exact ⟨p, by simpa [hkl, h] using h1, h2⟩
    · exact ⟨k, by simp [hkl, h], by omega, hj, fun y hy => by rw [hx'] at hy; cases hy; omega⟩

theorem put_ok (ns : Sl Int) (n : Int) (hl : ns.l.length ≤ 1000) (hr : Rise ns.l) : ∃ out, ref20_Put ns n = some out ∧ Rise out.l ∧ (∀ x, x ∈ out.l ↔ x = n ∨ x ∈ ns.l) ∧ out.l.length ≤ ns.l.length + 1 := by
  obtain ⟨p, h1, h2, h3, h4⟩ := put_L0 ns n (by omega) ns.l.length 0 (by omega) (fun j x hj => by omega)
  simp only [Int.natCast_zero] at h1
  have hT : subT ns.l (p : Int) = some (ns.l.take p) := by unfold subT; rw [if_pos (by simp; omega)]; simp
  have hF : subF ns.l (p : Int) = some (ns.l.drop p) := by unfold subF; rw [if_pos (by simp; omega)]; simp
  have hroom : ∀ k, k ≤ 3000 → roomOK k 8 = true := fun k hk => room_ok (by omega) (by omega)
  -- what is laid between
  have mid : (∀ x, ns.l[p]? = some x → n < x) → Rise ((ns.l.take p ++ [n]) ++ ns.l.drop p) ∧ (∀ x, x ∈ (ns.l.take p ++ [n]) ++ ns.l.drop p ↔ x = n ∨ x ∈ ns.l) ∧ ((ns.l.take p ++ [n]) ++ ns.l.drop p).length ≤ ns.l.length + 1 := by
    intro hlt
    have hsp : ns.l.take p ++ ns.l.drop p = ns.l := List.take_append_drop p ns.l
    have hr2 : Rise (ns.l.take p ++ ns.l.drop p) := by rw [hsp]; exact hr
    obtain ⟨r1, r2, r3⟩ := List.pairwise_append.1 hr2
    have a1 : ∀ x ∈ ns.l.take p, x < n := by
      intro x hx
      obtain ⟨j, hj⟩ := List.getElem?_of_mem hx
      have hjl := (List.getElem?_eq_some_iff.1 hj).1
      simp at hjl
      rw [List.getElem?_take_of_lt (by omega)] at hj
      exact h3 j x (by omega) hj
    have a2 : ∀ x ∈ ns.l.drop p, n < x := by
      intro x hx
      cases hd : ns.l.drop p with
      | nil => rw [hd] at hx; simp at hx
      | cons y r =>
        have hy : ns.l[p]? = some y := by
          have := congrArg (fun l => l[0]?) hd
          simpa using this
        have := hlt y hy
        rw [hd] at hx r2
        rcases List.mem_cons.1 hx with rfl | hx
        · exact this
        · have := (List.pairwise_cons.1 r2).1 x hx
          omega
    refine ⟨?_, fun x => ?_, by simp; omega⟩
    · refine List.pairwise_append.2 ⟨List.pairwise_append.2 ⟨r1, by simp, fun x hx y hy => ?_⟩, r2, fun x hx y hy => ?_⟩
      · simp at hy; subst hy; exact a1 x hx
      · rcases List.mem_append.1 hx with hx | hx
        · exact r3 x hx y hy
        · simp at hx; subst hx; exact a2 y hy
    · have : x ∈ ns.l ↔ x ∈ ns.l.take p ∨ x ∈ ns.l.drop p := by rw [← List.mem_append, hsp]
      rw [this]
      simp only [List.mem_append, List.mem_singleton]
      constructor
      · rintro ((h | h) | h)
        · exact .inr (.inl h)
        · exact .inl h
        · exact .inr (.inr h)
      · rintro (h | h | h)
        · exact .inl (.inr h)
        · exact .inl (.inl h)
        · exact .inr h
  unfold ref20_Put
  simp only [h1, hT, hF, Option.bind_eq_bind, Option.bind_some]
  by_cases hp : p < ns.l.length
  · have hx := geti_some hp
    have hx' : ns.l[p]? = some ns.l[p] := by simp [hp]
    generalize ns.l[p] = x at hx hx'
    have hge := h4 x hx'
    rw [if_pos (by simpa using hp), hx]
    simp only [Option.bind_some]
    by_cases e : x = n
    · refine ⟨ns, by simp [e], hr, fun y => ⟨fun h => .inr h, ?_⟩, by omega⟩
      rintro (rfl | h)
      · exact e ▸ List.mem_of_getElem? hx'
      · exact h
    · obtain ⟨m1, m2, m3⟩ := mid (fun y hy => by rw [hx'] at hy; cases hy; omega)
      refine ⟨⟨false, (ns.l.take p ++ [n]) ++ ns.l.drop p⟩, ?_, m1, m2, m3⟩
      rw [if_neg (by simpa using e), if_pos (hroom _ (by simp; omega)), if_pos (hroom _ (by simp; omega)), if_pos (hroom _ (by simp; omega))]
  · obtain ⟨m1, m2, m3⟩ := mid (fun y hy => by
      have := (List.getElem?_eq_some_iff.1 hy).1
      omega)
    refine ⟨⟨false, (ns.l.take p ++ [n]) ++ ns.l.drop p⟩, ?_, m1, m2, m3⟩
    rw [if_neg (by simpa using hp), if_pos (hroom _ (by simp; omega)), if_pos (hroom _ (by simp; omega)), if_pos (hroom _ (by simp; omega))]
end Go.Proofs.YtmlmgbnhaenabaaGreat
