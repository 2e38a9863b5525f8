/-
  The law StopsRings, on plain data: all that waits, and the document's side.
-/
import Derived.Test.YtdhgdeelagmbpaaStRgC
set_option linter.unusedSimpArgs false
set_option linter.unusedVariables false
namespace Go.Proofs.Ytdhgdeelagmbpaa
open Go Go.Gm

/-- A stop, of the first K ones, of a number of L stands in a stop of the number q. -/
def Waits (l : List T.Stop) (L : Int → Prop) (K : Nat) (q : Int) : Prop :=
  ∃ k x v y, k < K ∧ l[k]? = some x ∧ L x.n ∧ v ∈ ancs l k ∧ l[v]? = some y ∧ y.n = q ∧ q ≠ x.n

theorem waits_L0 (i : T.Inst) (hl : i.stops.l.length ≤ 12) (left : MapII) (L : Int → Prop) (B : Nat) (hL : Lft left L B) : ∀ (d k : Nat) (out : MapII), k + d = i.stops.l.length → Lft out (Waits i.stops.l L k) (12 * k) →
    ∃ out', stops_waits_L0 (i.stops, (i.stops.l.length : Int), (k : Int), left, i, out) = some out' ∧ Lft out' (Waits i.stops.l L i.stops.l.length) 144 := by
  intro d
  induction d with
  | zero =>
    intro k out hk h
    obtain rfl : k = i.stops.l.length := by omega
    refine ⟨out, ?_, lft_more h (by omega)⟩
    rw [stops_waits_L0.eq_1, if_neg (by simp)]
  | succ d ih =>
    intro k out hk h
    have hkl : k < i.stops.l.length := by omega
    have hx := geti_some hkl
    have hx2 : i.stops.l[k]? = some i.stops.l[k] := by simp [hkl]
    generalize i.stops.l[k] = x at hx hx2
    have hw : IntKind.i64.wrap ((k : Int) + 1) = ((k + 1 : Nat) : Int) := wrap_succ (by omega)
    rw [stops_waits_L0.eq_1, if_pos (by simp; omega)]
    simp only [hx, Option.bind_eq_bind, Option.bind_some, hw]
    by_cases hz : mget left x.n = 0
    · rw [if_pos (by simpa using hz)]
      refine ih (k + 1) out (by omega) (lft_congr (lft_more h (by omega)) fun q => ?_)
      constructor
      · rintro ⟨a, z, v, y, h1, h2⟩
        exact ⟨a, z, v, y, by omega, h2⟩
      · rintro ⟨a, z, v, y, h1, h2, h3, h4⟩
        by_cases e : a = k
        · subst e
          rw [hx2] at h2
          cases h2
          exact absurd h3 ((hL.get x.n).2.2.1 hz)
        · exact ⟨a, z, v, y, by omega, h2, h3, h4⟩
    · rw [if_neg (by simpa using hz)]
      have hLx : L x.n := Classical.byContradiction fun hn => hz ((hL.get x.n).2.2.2 hn)
      by_cases hv : 0 ≤ x.up ∧ x.up < k
      · obtain ⟨p, hp⟩ : ∃ p : Nat, x.up = p := ⟨x.up.toNat, by omega⟩
        rw [up_some hx hp (by omega)]
        obtain ⟨out1, h1, h2⟩ := waits_L2 i hl i.stops (i.stops.l.length : Int) (k : Int) left x p out _ (12 * k) (by omega) (by omega) h
        simp only [Option.bind_some, h1]
        refine ih (k + 1) out1 (by omega) (lft_congr (lft_more h2 (by omega)) fun q => ?_)
        constructor
        · rintro (⟨a, z, v, y, h1, h2⟩ | ⟨v, y, h1, h2, h3, h4⟩)
          · exact ⟨a, z, v, y, by omega, h2⟩
          · refine ⟨k, x, v, y, by omega, hx2, hLx, ?_, h2, h3, h4⟩
            rw [ancs_some hx2 hp (by omega)]
            exact List.mem_cons.2 h1
        · rintro ⟨a, z, v, y, g1, g2, g3, g4, g5⟩
          by_cases e : a = k
          · subst e
            rw [hx2] at g2
            cases g2
            rw [ancs_some hx2 hp (by omega)] at g4
            exact .inr ⟨v, y, List.mem_cons.1 g4, g5⟩
          · exact .inl ⟨a, z, v, y, by omega, g2, g3, g4, g5⟩
      · rw [up_none hx hv]
        have h1 : stops_waits_L2 (-1, i.stops, (i.stops.l.length : Int), (k : Int), left, i, out, x) = some out := by
          rw [stops_waits_L2.eq_1, if_neg (by simp)]
        simp only [Option.bind_some, h1]
        refine ih (k + 1) out (by omega) (lft_congr (lft_more h (by omega)) fun q => ?_)
        constructor
        · rintro ⟨a, z, v, y, h1, h2⟩
          exact ⟨a, z, v, y, by omega, h2⟩
        · rintro ⟨a, z, v, y, h1, h2, h3, h4, h5⟩
          by_cases e : a = k
          · subst e
            rw [hx2] at h2
            cases h2
            rw [ancs_none hx2 hv] at h4
            simp at h4
          · exact ⟨a, z, v, y, by omega, h2, h3, h4, h5⟩

theorem waits_ok (i : T.Inst) (hl : i.stops.l.length ≤ 12) (left : MapII) (L : Int → Prop) (B : Nat) (hL : Lft left L B) :
    ∃ out', stops_waits i left = some out' ∧ Lft out' (Waits i.stops.l L i.stops.l.length) 144 := by
  obtain ⟨o, h1, h2⟩ := waits_L0 i hl left L B hL i.stops.l.length 0 ⟨[], 0⟩ (by omega) (lft_congr (lft_nil _) fun q => by simp [Waits])
  refine ⟨o, ?_, h2⟩
  unfold stops_waits
  simp only [Int.natCast_zero] at h1
  simp [h1]

/-! The document's. -/
theorem in_L0 (l : Sl T.Stop) (b : Nat) (a : Nat) : a < l.l.length → ref26_In_L0 (l, (a : Int), (b : Int)) = some (if b ∈ ancs l.l a then .inl true else .inr ()) := by
  induction a using Nat.strongRecOn with
  | _ a ih =>
  intro ha
  have hy := geti_some ha
  have hy2 : l.l[a]? = some l.l[a] := by simp [ha]
  generalize l.l[a] = y at hy hy2
  rw [ref26_In_L0.eq_1, if_pos (by simp; omega)]
  simp only [hy, Option.bind_eq_bind, Option.bind_some]
  by_cases h0 : 0 ≤ y.up
  · rw [if_pos (by simpa using h0)]
    by_cases h1 : y.up < a
    · rw [if_pos (by simpa using h1)]
      obtain ⟨p, hp⟩ : ∃ p : Nat, y.up = p := ⟨y.up.toNat, by omega⟩
      rw [ancs_some hy2 hp (by omega), hp]
      by_cases e : p = b
      · subst e
        simp
      · have e2 : ((p : Int) == (b : Int)) = false := by simp; omega
        have e3 : ¬ b = p := fun h => e h.symm
        rw [e2, ih p (by omega) (by omega)]
        simp [e3]
    · rw [if_neg (by simpa using h1), ancs_none hy2 (by omega)]
      simp
  · rw [if_neg (by simpa using h0), ancs_none hy2 (by omega)]
    simp
theorem in_ok (l : Sl T.Stop) (a b : Nat) (ha : a < l.l.length) : ref26_In l (a : Int) (b : Int) = some (decide (b ∈ ancs l.l a)) := by
  unfold ref26_In
  rw [in_L0 l b a ha]
  by_cases h : b ∈ ancs l.l a <;> simp [h]

theorem among_L0 (n : Int) (l : List Int) (hl : l.length < 1000) : ∀ (d k : Nat), k + d = l.length → ref26_among_L0 (n, (k : Int), l) = some (if n ∈ l.drop k then .inl true else .inr ()) := by
  intro d
  induction d with
  | zero =>
    intro k hk
    rw [ref26_among_L0.eq_1, if_neg (by simp; omega), List.drop_of_length_le (by omega)]
    simp
  | succ d ih =>
    intro k hk
    have hkl : k < l.length := by omega
    have hx := geti_some hkl
    have hd : l.drop k = l[k] :: l.drop (k + 1) := List.drop_eq_getElem_cons hkl
    generalize l[k] = x at hx hd
    have hw : IntKind.i64.wrap ((k : Int) + 1) = ((k + 1 : Nat) : Int) := wrap_succ (by omega)
    rw [ref26_among_L0.eq_1, if_pos (by simp; omega), hd]
    simp only [hx, Option.bind_eq_bind, Option.bind_some, hw]
    by_cases e : x = n
    · simp [e]
    · have e2 : ¬ n = x := fun h => e h.symm
      rw [if_neg (by simpa using e), ih (k + 1) (by omega)]
      simp [e2]
theorem among_ok (n : Int) (l : List Int) (hl : l.length < 1000) : ref26_among n l = some (decide (n ∈ l)) := by
  unfold ref26_among
  have := among_L0 n l hl l.length 0 (by omega)
  simp only [Int.natCast_zero, List.drop_zero] at this
  rw [this]
  by_cases h : n ∈ l <;> simp [h]

theorem free_L2 (l : Sl T.Stop) (n : Int) (a : Nat) (ha : a < l.l.length) (told : List Int) (hl : l.l.length ≤ 12) : ∀ (d k : Nat), k + d = l.l.length →
    ∃ t : Bool, ref26_free_L2 (l, n, (a : Int), (k : Int), told) = some (if t then .inr () else .inl false) ∧ (t = true ↔ ∀ b y, k ≤ b → l.l[b]? = some y → y.n = n → b ∉ ancs l.l a) := by
  intro d
  induction d with
  | zero =>
    intro k hk
    refine ⟨true, ?_, ?_⟩
    · rw [ref26_free_L2.eq_1, if_neg (by simp; omega)]; rfl
    · simp only [true_iff]
      intro b y hb hy
      have := (List.getElem?_eq_some_iff.1 hy).1
      omega
  | succ d ih =>
    intro k hk
    have hkl : k < l.l.length := by omega
    have hx := geti_some hkl
    have hx2 : l.l[k]? = some l.l[k] := by simp [hkl]
    generalize l.l[k] = x at hx hx2
    have hw : IntKind.i64.wrap ((k : Int) + 1) = ((k + 1 : Nat) : Int) := wrap_succ (by omega)
    rw [ref26_free_L2.eq_1, if_pos (by simp; omega)]
    simp only [hx, in_ok l a k ha, Option.bind_eq_bind, Option.bind_some, hw]
    obtain ⟨t, h1, h2⟩ := ih (k + 1) (by omega)
    have hrest : ∀ (hno : x.n = n → k ∉ ancs l.l a), (t = true ↔ ∀ b y, k ≤ b → l.l[b]? = some y → y.n = n → b ∉ ancs l.l a) := by
      intro hno
      rw [h2]
      constructor
      · intro h b y hb hy hn
        by_cases e : b = k
        · subst e
          rw [hx2] at hy
          cases hy
          exact hno hn
        · exact h b y (by omega) hy hn
      · intro h b y hb hy hn
        exact h b y (by omega) hy hn
    by_cases e : x.n = n
    · rw [if_pos (by simpa using e)]
      by_cases hm : k ∈ ancs l.l a
      · refine ⟨false, by simp [hm], ?_⟩
        constructor
        · intro h; cases h
        · intro h; exact absurd hm (h k x (Nat.le_refl _) hx2 e)
      · exact ⟨t, by simpa [hm] using h1, hrest fun _ => hm⟩
    · rw [if_neg (by simpa using e)]
      exact ⟨t, h1, hrest fun h => absurd h e⟩

theorem free_L0 (l : Sl T.Stop) (n : Int) (told : List Int) (ht : told.length < 1000) (hl : l.l.length ≤ 12) : ∀ (d k : Nat), k + d = l.l.length →
    ∃ t : Bool, ref26_free_L0 (l, n, (k : Int), told) = some (if t then .inr () else .inl false) ∧
      (t = true ↔ ∀ a x b y, k ≤ a → l.l[a]? = some x → x.n ≠ n → x.n ∉ told → l.l[b]? = some y → y.n = n → b ∉ ancs l.l a) := by
  intro d
  induction d with
  | zero =>
    intro k hk
    refine ⟨true, ?_, ?_⟩
    · rw [ref26_free_L0.eq_1, if_neg (by simp; omega)]; rfl
    · simp only [true_iff]
      intro a x b y ha hx
      have := (List.getElem?_eq_some_iff.1 hx).1
      omega
  | succ d ih =>
    intro k hk
    have hkl : k < l.l.length := by omega
    have hx := geti_some hkl
    have hx2 : l.l[k]? = some l.l[k] := by simp [hkl]
    generalize l.l[k] = x at hx hx2
    have hw : IntKind.i64.wrap ((k : Int) + 1) = ((k + 1 : Nat) : Int) := wrap_succ (by omega)
    rw [ref26_free_L0.eq_1, if_pos (by simp; omega)]
    simp only [hx, among_ok x.n told ht, Option.bind_eq_bind, Option.bind_some, hw]
    obtain ⟨t, h1, h2⟩ := ih (k + 1) (by omega)
    have hrest : ∀ (hno : x.n ≠ n → x.n ∉ told → ∀ b y, l.l[b]? = some y → y.n = n → b ∉ ancs l.l k), (t = true ↔ ∀ a x b y, k ≤ a → l.l[a]? = some x → x.n ≠ n → x.n ∉ told → l.l[b]? = some y → y.n = n → b ∉ ancs l.l a) := by
      intro hno
      rw [h2]
      constructor
      · intro h a z b y ha hz h3 h4
        by_cases e : a = k
        · subst e
          rw [hx2] at hz
          cases hz
          exact hno h3 h4 b y
        · exact h a z b y (by omega) hz h3 h4
      · intro h a z b y ha
        exact h a z b y (by omega)
    by_cases e : x.n = n
    · rw [if_pos (by simpa using e)]
      exact ⟨t, h1, hrest fun h => absurd e h⟩
    · rw [if_neg (by simpa using e)]
      by_cases hm : x.n ∈ told
      · exact ⟨t, by simpa [hm] using h1, hrest fun _ h => absurd hm h⟩
      · obtain ⟨t2, h3, h4⟩ := free_L2 l n k hkl told hl l.l.length 0 (by omega)
        simp only [Int.natCast_zero] at h3
        cases t2 with
        | true =>
          refine ⟨t, by simpa [hm, h3] using h1, hrest fun _ _ b y => h4.1 rfl b y (Nat.zero_le _)⟩
        | false =>
          refine ⟨false, by simp [hm, h3], ?_⟩
          constructor
          · intro h; cases h
          · intro h
            have := h4.2 fun b y _ => h k x b y (Nat.le_refl _) hx2 e hm
            cases this

theorem free_ok (l : Sl T.Stop) (n : Int) (told : List Int) (ht : told.length < 1000) (hl : l.l.length ≤ 12) :
    ∃ t : Bool, ref26_free l n told = some t ∧ (t = true ↔ ∀ a x b y, l.l[a]? = some x → x.n ≠ n → x.n ∉ told → l.l[b]? = some y → y.n = n → b ∉ ancs l.l a) := by
  obtain ⟨t, h1, h2⟩ := free_L0 l n told ht hl l.l.length 0 (by omega)
  simp only [Int.natCast_zero] at h1
  refine ⟨t, ?_, h2.trans ⟨fun h a x b y => h a x b y (Nat.zero_le _), fun h a x b y _ => h a x b y⟩⟩
  unfold ref26_free
  rw [h1]
  cases t <;> rfl
end Go.Proofs.Ytdhgdeelagmbpaa
