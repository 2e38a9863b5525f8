/-
  The law StopsRings, on plain data: the stops that are made are a snippet's.
-/
import Derived.Test.YtdhgdeelagmbpaaPlPut
import Derived.Test.YtdhgdeelagmbpaaPlInts
set_option linter.unusedSimpArgs false
set_option linter.unusedVariables false
namespace Go.Proofs.Ytdhgdeelagmbpaa
open Go Go.Gm

/-- What the stop at 'u' stands in, from the next one on. -/
def ancs (l : List T.Stop) (u : Nat) : List Nat :=
  match l[u]? with
  | some x => if h : 0 ≤ x.up ∧ x.up < u then x.up.toNat :: ancs l x.up.toNat else []
  | none => []
termination_by u
decreasing_by omega

theorem ancs_some {l : List T.Stop} {u v : Nat} {x : T.Stop} (hx : l[u]? = some x) (hv : x.up = v) (h : v < u) : ancs l u = v :: ancs l v := by
  rw [ancs.eq_1, hx]
  have h2 : 0 ≤ x.up ∧ x.up < u := by omega
  have h3 : x.up.toNat = v := by omega
  simp only [h2, and_self, ↓reduceDIte, h3]
theorem ancs_none {l : List T.Stop} {u : Nat} {x : T.Stop} (hx : l[u]? = some x) (h : ¬ (0 ≤ x.up ∧ x.up < u)) : ancs l u = [] := by
  rw [ancs.eq_1, hx]
  simp only [h, ↓reduceDIte]
theorem ancs_lt (l : List T.Stop) (u : Nat) : ∀ v ∈ ancs l u, v < u := by
  induction u using Nat.strongRecOn with
  | _ u ih =>
  intro v hv
  cases hx : l[u]? with
  | none => rw [ancs.eq_1, hx] at hv; simp at hv
  | some x =>
    by_cases h : 0 ≤ x.up ∧ x.up < u
    · obtain ⟨p, hp⟩ : ∃ p : Nat, x.up = p := ⟨x.up.toNat, by omega⟩
      rw [ancs_some hx hp (by omega)] at hv
      rcases List.mem_cons.1 hv with rfl | hv
      · omega
      · have := ih p (by omega) v hv; omega
    · rw [ancs_none hx h] at hv; simp at hv
theorem ancs_app (l r : List T.Stop) (u : Nat) : u < l.length → ancs (l ++ r) u = ancs l u := by
  induction u using Nat.strongRecOn with
  | _ u ih =>
  intro hu
  have hx : l[u]? = some l[u] := by simp [hu]
  have hx2 : (l ++ r)[u]? = some l[u] := by rw [List.getElem?_append_left hu, hx]
  generalize l[u] = x at hx hx2
  by_cases h : 0 ≤ x.up ∧ x.up < u
  · obtain ⟨p, hp⟩ : ∃ p : Nat, x.up = p := ⟨x.up.toNat, by omega⟩
    rw [ancs_some hx hp (by omega), ancs_some hx2 hp (by omega), ih p (by omega) (by omega)]
  · rw [ancs_none hx h, ancs_none hx2 h]

theorem ancs_trans {l : List T.Stop} {u p : Nat} (hp : p ∈ ancs l u) (j : Nat) : u ∈ ancs l j → p ∈ ancs l j := by
  induction j using Nat.strongRecOn with
  | _ j ih =>
  intro hu
  cases hx : l[j]? with
  | none => rw [ancs.eq_1, hx] at hu; simp at hu
  | some x =>
    by_cases h : 0 ≤ x.up ∧ x.up < j
    · obtain ⟨q, hq⟩ : ∃ q : Nat, x.up = q := ⟨x.up.toNat, by omega⟩
      rw [ancs_some hx hq (by omega)] at hu ⊢
      rcases List.mem_cons.1 hu with rfl | hu
      · exact List.mem_cons_of_mem _ hp
      · exact List.mem_cons_of_mem _ (ih q (by omega) hu)
    · rw [ancs_none hx h] at hu; simp at hu

/-- What a made list of stops is. -/
structure Made (l : List T.Stop) (k : Nat) (x : T.Stop) : Prop where
  sp : x.span = ⟨1, 1⟩
  lo : 0 ≤ x.n
  hi : x.n < 5
  up : x.up = -1 ∨ ∃ v : Nat, x.up = v ∧ 0 < k ∧ (v = k - 1 ∨ v ∈ ancs l (k - 1))
def MadeL (l : List T.Stop) : Prop := ∀ k x, l[k]? = some x → Made l k x

theorem Made.lt {l : List T.Stop} {k : Nat} {x : T.Stop} (h : Made l k x) : -1 ≤ x.up ∧ x.up < k := by
  rcases h.up with h | ⟨v, h1, h2, h3⟩
  · omega
  · rcases h3 with h3 | h3
    · omega
    · have := ancs_lt _ _ _ h3; omega

theorem low_ok (x n : Int) (hn : 0 < n) (hn2 : n ≤ 7) : ∃ r : Int, law0_Low x n = some r ∧ 0 ≤ r ∧ r < n := by
  have hw : IntKind.u64.wrap n = n := by
    simp [IntKind.wrap, IntKind.signed, IntKind.bits]
    omega
  have h0 : 0 ≤ IntKind.u64.wrap x := by
    simp [IntKind.wrap, IntKind.signed, IntKind.bits]
    omega
  have h1 : (IntKind.u64.wrap x).tmod n = (IntKind.u64.wrap x) % n := Int.tmod_eq_emod_of_nonneg h0
  have h2 := Int.emod_nonneg (IntKind.u64.wrap x) (show n ≠ 0 by omega)
  have h3 := Int.emod_lt_of_pos (IntKind.u64.wrap x) hn
  refine ⟨(IntKind.u64.wrap x) % n, ?_, h2, h3⟩
  unfold law0_Low
  rw [hw, if_pos (by omega), h1, wrap_in (by omega) (by omega)]

theorem rings_L2 (ups ns : Sl Int) (i : Nat) (a b : Int) (l : List T.Stop) (hi : i < ups.l.length) (hM : MadeL l) (j : Nat) : ∀ (u : Nat) (k : Nat), u < l.length → (u = j ∨ u ∈ ancs l j) → k ≤ 7 →
    ∃ v : Int, law26_StopsRings_L2 (ups, ns, (i : Int), (u : Int), (k : Int), a, b, l) = some v ∧ (v = -1 ∨ ∃ p : Nat, v = p ∧ (p = j ∨ p ∈ ancs l j)) := by
  intro u
  induction u using Nat.strongRecOn with
  | _ u ih =>
  intro k hu hj hk
  have hx := geti_some hi
  generalize ups.l[i] = x at hx
  obtain ⟨r, h1, h2, h3⟩ := low_ok x 4 (by omega) (by omega)
  have hy := geti_some hu
  have hy2 : l[u]? = some l[u] := by simp [hu]
  generalize l[u] = y at hy hy2
  have hw : IntKind.i64.wrap ((k : Int) + 1) = ((k + 1 : Nat) : Int) := wrap_succ (by omega)
  rw [law26_StopsRings_L2.eq_1]
  simp only [hx, h1, hy, Option.bind_eq_bind, Option.bind_some, hw]
  by_cases hc : (k : Int) < r
  · rw [if_pos (by simp [hc])]
    have hlt := (hM u y hy2).lt
    by_cases hn : y.up = -1
    · refine ⟨-1, ?_, .inl rfl⟩
      rw [hn, law26_StopsRings_L2.eq_1]
      simp [hx, h1]
    · obtain ⟨p, hp⟩ : ∃ p : Nat, y.up = p := ⟨y.up.toNat, by omega⟩
      rw [hp]
      refine ih p (by omega) (k + 1) (by omega) ?_ (by omega)
      have hmem : p ∈ ancs l u := by rw [ancs_some hy2 hp (by omega)]; exact List.mem_cons_self
      rcases hj with rfl | hj
      · exact .inr hmem
      · exact .inr (ancs_trans hmem _ hj)
  · rw [if_neg (by simp [hc])]
    exact ⟨u, rfl, .inr ⟨u, rfl, hj⟩⟩

theorem made_app {l : List T.Stop} {k : Nat} {x : T.Stop} (r : List T.Stop) (h : Made l k x) (hk : k ≤ l.length) : Made (l ++ r) k x := by
  refine ⟨h.sp, h.lo, h.hi, ?_⟩
  rcases h.up with h | ⟨v, h1, h2, h3⟩
  · exact .inl h
  · exact .inr ⟨v, h1, h2, by rw [ancs_app _ _ _ (by omega)]; exact h3⟩

theorem rings_L0 (ups ns : Sl Int) (hl : ups.l.length ≤ 12) : ∀ (d i : Nat) (l : List T.Stop), i + d = ups.l.length → l.length = i → MadeL l →
    ∃ r, law26_StopsRings_L0 (ups, ns, (i : Int), 1, 1, l) = some r ∧ MadeL r ∧ r.length ≤ 12 := by
  intro d
  induction d with
  | zero =>
    intro i l hi hli hM
    refine ⟨l, ?_, hM, by omega⟩
    rw [law26_StopsRings_L0.eq_1, if_neg (by simp; omega)]
  | succ d ih =>
    intro i l hi hli hM
    rw [law26_StopsRings_L0.eq_1]
    by_cases hc : i < ns.l.length
    · rw [if_pos (by simp; omega)]
      have h2 : ∃ v : Int, law26_StopsRings_L2 (ups, ns, (i : Int), IntKind.i64.wrap ((i : Int) - 1), 0, 1, 1, l) = some v ∧ (v = -1 ∨ ∃ p : Nat, v = p ∧ 0 < i ∧ (p = i - 1 ∨ p ∈ ancs l (i - 1))) := by
        rw [wrap_in (by omega) (by omega)]
        by_cases h0 : i = 0
        · subst h0
          refine ⟨-1, ?_, .inl rfl⟩
          have hx := geti_some (show 0 < ups.l.length by omega)
          generalize ups.l[0] = x at hx
          obtain ⟨r, h1, _, _⟩ := low_ok x 4 (by omega) (by omega)
          rw [law26_StopsRings_L2.eq_1]
          simp only [Int.natCast_zero] at hx ⊢
          simp [hx, h1]
        · have e : (i : Int) - 1 = ((i - 1 : Nat) : Int) := by omega
          obtain ⟨v, h1, h2⟩ := rings_L2 ups ns i 1 1 l (by omega) hM (i - 1) (i - 1) 0 (by omega) (.inl rfl) (by omega)
          rw [e]
          refine ⟨v, h1, ?_⟩
          rcases h2 with h2 | ⟨p, h2, h3⟩
          · exact .inl h2
          · exact .inr ⟨p, h2, by omega, h3⟩
      obtain ⟨v, h1, h2⟩ := h2
      have hx := geti_some hc
      generalize ns.l[i] = x at hx
      obtain ⟨r5, h5, h5a, h5b⟩ := low_ok x 5 (by omega) (by omega)
      obtain ⟨r7, h7, _, _⟩ := low_ok x 7 (by omega) (by omega)
      have hroom : roomOK (l.length + 1) 200 = true := by simp [roomOK]; omega
      have hw : IntKind.i64.wrap ((i : Int) + 1) = ((i + 1 : Nat) : Int) := wrap_succ (by omega)
      simp only [h1, hx, h5, h7, hroom, Option.bind_eq_bind, Option.bind_some, if_true, hw]
      refine ih (i + 1) _ (by omega) (by simp; omega) ?_
      intro k y hy
      by_cases hk : k < l.length
      · rw [List.getElem?_append_left hk] at hy
        exact made_app _ (hM k y hy) (by omega)
      · rw [List.getElem?_append_right (by omega)] at hy
        have hk2 : k = i := by
          have := (List.getElem?_eq_some_iff.1 hy).1
          simp at this
          omega
        subst hk2
        simp only [hli, Nat.sub_self, List.getElem?_cons_zero, Option.some.injEq] at hy
        subst hy
        refine made_app _ ⟨rfl, h5a, h5b, h2⟩ (by omega)
    · rw [if_neg (by simp; omega)]
      exact ⟨l, rfl, hM, by omega⟩
end Go.Proofs.Ytdhgdeelagmbpaa
