/-
  The law StopsRings, on plain data: what waits.
-/
import Derived.Test.YtdhgdeelagmbpaaStRgB
set_option linter.unusedSimpArgs false
set_option linter.unusedVariables false
namespace Go.Proofs.Ytdhgdeelagmbpaa
open Go Go.Gm

theorem mput_mem {m : MapII} {k v : Int} {e : Int × Int × Nat} (h : e ∈ (mput m k v).es) : e.2.1 = v ∨ e ∈ m.es := by
  unfold mput at h
  split at h
  · rcases List.mem_or_eq_of_mem_set h with h | h
    · exact .inr h
    · exact .inl (by rw [h])
  · simp only [List.mem_append, List.mem_singleton] at h
    rcases h with h | h
    · exact .inr h
    · exact .inl (by rw [h])
theorem mdel_mem {m : MapII} {k : Int} {e : Int × Int × Nat} (h : e ∈ (mdel m k).es) : e ∈ m.es := by
  unfold mdel at h
  split at h
  · exact List.mem_of_mem_eraseIdx h
  · exact h

structure Lft (m : MapII) (P : Int → Prop) (B : Nat) : Prop where
  ok : MOK m
  keys : ∀ x, x ∈ keysL m ↔ P x
  pos : ∀ e ∈ m.es, 1 ≤ e.2.1 ∧ e.2.1 ≤ B
  len : m.es.length ≤ B

theorem Lft.get {m : MapII} {P : Int → Prop} {B : Nat} (h : Lft m P B) (q : Int) : 0 ≤ mget m q ∧ mget m q ≤ B ∧ (mget m q = 0 ↔ ¬ P q) := by
  rw [← h.keys]
  cases hf : lfind q m.es 0 with
  | none =>
    have hk := (lfind_none q m.es 0).1 hf
    have : mget m q = 0 := by unfold mget; rw [hf]
    rw [this]
    refine ⟨by omega, by omega, ?_⟩
    simp only [true_iff]
    exact hk
  | some x =>
    obtain ⟨j, v, b⟩ := x
    obtain ⟨d, _, hd⟩ := lfind_some q _ _ _ _ _ hf
    have hm := List.mem_of_getElem? hd
    have hv : mget m q = v := by unfold mget; rw [hf]
    have hp := h.pos _ hm
    simp only at hp
    have hk : q ∈ keysL m := List.mem_map.2 ⟨_, hm, rfl⟩
    rw [hv]
    refine ⟨by omega, by omega, ?_⟩
    constructor
    · intro e; omega
    · intro e; exact absurd hk e

theorem lft_put {m : MapII} {P : Int → Prop} {B : Nat} (h : Lft m P B) (hB : B < 1000) (n : Int) : Lft (mput m n (IntKind.i64.wrap (mget m n + 1))) (fun x => x = n ∨ P x) (B + 1) := by
  have hg := h.get n
  rw [wrap_in (by omega) (by omega)]
  refine ⟨mput_ok h.ok _ _, fun x => by rw [mput_keys, h.keys], fun e he => ?_, ?_⟩
  · rcases mput_mem he with e1 | e1
    · rw [e1]; omega
    · have := h.pos e e1; omega
  · have := mput_len m n (mget m n + 1)
    have := h.len
    omega

theorem lft_congr {m : MapII} {P Q : Int → Prop} {B : Nat} (h : Lft m P B) (hq : ∀ x, P x ↔ Q x) : Lft m Q B := ⟨h.ok, fun x => (h.keys x).trans (hq x), h.pos, h.len⟩
theorem lft_more {m : MapII} {P : Int → Prop} {B C : Nat} (h : Lft m P B) (hq : B ≤ C) : Lft m P C := ⟨h.ok, h.keys, fun e he => by have := h.pos e he; omega, by have := h.len; omega⟩
theorem lft_nil (B : Nat) : Lft ⟨[], 0⟩ (fun _ => False) B := ⟨⟨by simp [keysL], by simp, by simp⟩, by simp [keysL], by simp, by simp⟩

theorem order_L0 (i : T.Inst) (hl : i.stops.l.length ≤ 12) : ∀ (d k : Nat) (m : MapII), k + d = i.stops.l.length → Lft m (fun x => x ∈ (i.stops.l.take k).map (·.n)) k →
    ∃ m', stops_Order_L0 (i.stops, (i.stops.l.length : Int), (k : Int), i, m) = some m' ∧ Lft m' (fun x => x ∈ i.stops.l.map (·.n)) 12 := by
  intro d
  induction d with
  | zero =>
    intro k m hk h
    obtain rfl : k = i.stops.l.length := by omega
    refine ⟨m, ?_, ?_⟩
    · rw [stops_Order_L0.eq_1, if_neg (by simp)]
    · rw [List.take_length] at h
      exact lft_more h hl
  | succ d ih =>
    intro k m hk h
    have hkl : k < i.stops.l.length := by omega
    have hx := geti_some hkl
    have ht : i.stops.l.take (k + 1) = i.stops.l.take k ++ [i.stops.l[k]] := by rw [List.take_append_getElem]
    generalize i.stops.l[k] = x at hx ht
    have hw : IntKind.i64.wrap ((k : Int) + 1) = ((k + 1 : Nat) : Int) := wrap_succ (by omega)
    rw [stops_Order_L0.eq_1, if_pos (by simp; omega)]
    simp only [hx, Option.bind_eq_bind, Option.bind_some, hw]
    refine ih (k + 1) _ (by omega) (lft_congr (lft_put h (by omega) x.n) fun q => ?_)
    rw [ht]
    simp [or_comm]

/-- The chain that one stop adds to what waits. -/
theorem waits_L2 (i : T.Inst) (hl : i.stops.l.length ≤ 12) (t12 : Sl T.Stop) (t13 t14 : Int) (left : MapII) (s : T.Stop) (u : Nat) : ∀ (out : MapII) (P : Int → Prop) (B : Nat), u < i.stops.l.length → B + u < 500 → Lft out P B →
    ∃ out', stops_waits_L2 ((u : Int), t12, t13, t14, left, i, out, s) = some out' ∧
      Lft out' (fun q => P q ∨ ∃ v x, (v = u ∨ v ∈ ancs i.stops.l u) ∧ i.stops.l[v]? = some x ∧ x.n = q ∧ q ≠ s.n) (B + u + 1) := by
  induction u using Nat.strongRecOn with
  | _ u ih =>
  intro out P B hu hB h
  have hy := geti_some hu
  have hy2 : i.stops.l[u]? = some i.stops.l[u] := by simp [hu]
  generalize i.stops.l[u] = y at hy hy2
  -- what this one adds
  have h1 : ∃ out1, Lft out1 (fun q => P q ∨ (y.n = q ∧ q ≠ s.n)) (B + 1) ∧ stops_waits_L2 ((u : Int), t12, t13, t14, left, i, out, s) = (stops_up i (u : Int)).bind fun v => stops_waits_L2 (v, t12, t13, t14, left, i, out1, s) := by
    by_cases e : y.n = s.n
    · refine ⟨out, lft_congr (lft_more h (by omega)) fun q => ?_, ?_⟩
      · constructor
        · exact .inl
        · rintro (h | ⟨h1, h2⟩)
          · exact h
          · exact absurd (h1.symm.trans e) h2
      · rw [stops_waits_L2.eq_1, if_pos (by simp)]
        simp only [hy, Option.bind_eq_bind, Option.bind_some]
        rw [if_neg (by simpa using e)]
    · refine ⟨_, lft_congr (lft_put h (by omega) y.n) fun q => ?_, ?_⟩
      · constructor
        · rintro (rfl | h)
          · exact .inr ⟨rfl, e⟩
          · exact .inl h
        · rintro (h | ⟨h1, h2⟩)
          · exact .inr h
          · exact .inl h1.symm
      · conv => lhs; rw [stops_waits_L2.eq_1, if_pos (by simp)]
        simp only [hy, Option.bind_eq_bind, Option.bind_some]
        rw [if_pos (by simpa using e)]
  obtain ⟨out1, h1, he⟩ := h1
  rw [he]
  by_cases hv : 0 ≤ y.up ∧ y.up < u
  · obtain ⟨p, hp⟩ : ∃ p : Nat, y.up = p := ⟨y.up.toNat, by omega⟩
    rw [up_some hy hp (by omega)]
    obtain ⟨out', h2, h3⟩ := ih p (by omega) out1 _ (B + 1) (by omega) (by omega) h1
    refine ⟨out', h2, lft_congr (lft_more h3 (by omega)) fun q => ?_⟩
    rw [ancs_some hy2 hp (by omega)]
    constructor
    · rintro ((h | ⟨h1, h2⟩) | ⟨v, x, h1, h2⟩)
      · exact .inl h
      · exact .inr ⟨u, y, .inl rfl, hy2, h1, h2⟩
      · exact .inr ⟨v, x, .inr (List.mem_cons.2 h1), h2⟩
    · rintro (h | ⟨v, x, h1, h2⟩)
      · exact .inl (.inl h)
      · rcases h1 with rfl | h1
        · rw [hy2] at h2
          obtain ⟨h2, h3⟩ := h2
          cases h2
          exact .inl (.inr h3)
        · exact .inr ⟨v, x, List.mem_cons.1 h1, h2⟩
  · rw [up_none hy hv]
    refine ⟨out1, ?_, lft_congr (lft_more h1 (by omega)) fun q => ?_⟩
    · simp only [Option.bind_some]
      rw [stops_waits_L2.eq_1, if_neg (by simp)]
    · rw [ancs_none hy2 hv]
      constructor
      · rintro (h | ⟨h1, h2⟩)
        · exact .inl h
        · exact .inr ⟨u, y, .inl rfl, hy2, h1, h2⟩
      · rintro (h | ⟨v, x, h1, h2⟩)
        · exact .inl h
        · rcases h1 with rfl | h1
          · rw [hy2] at h2
            obtain ⟨h2, h3⟩ := h2
            cases h2
            exact .inr h3
          · simp at h1
end Go.Proofs.Ytdhgdeelagmbpaa
