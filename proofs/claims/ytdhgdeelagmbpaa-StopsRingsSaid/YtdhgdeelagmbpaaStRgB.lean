/-
  The law StopsRings, on plain data: what is made may stand.
-/
import Derived.Test.YtdhgdeelagmbpaaStRgA
set_option linter.unusedSimpArgs false
set_option linter.unusedVariables false
namespace Go.Proofs.Ytdhgdeelagmbpaa
open Go Go.Gm

theorem up_some {i : T.Inst} {u v : Nat} {y : T.Stop} (hy : geti i.stops.l (u : Int) = some y) (hv : y.up = v) (h : v < u) : stops_up i (u : Int) = some (v : Int) := by
  unfold stops_up
  simp only [hy, Option.bind_eq_bind, Option.bind_some]
  rw [if_pos (by simp [hv]; omega), hv]
theorem up_none {i : T.Inst} {u : Nat} {y : T.Stop} (hy : geti i.stops.l (u : Int) = some y) (h : ¬ (0 ≤ y.up ∧ y.up < u)) : stops_up i (u : Int) = some (-1) := by
  unfold stops_up
  simp only [hy, Option.bind_eq_bind, Option.bind_some]
  rw [if_neg (by simp; omega)]

theorem placed_top (i : T.Inst) (k : Nat) (x : T.Stop) (hx : geti i.stops.l (k : Int) = some x) (h : x.up = -1) (u : Nat) : u < i.stops.l.length →
    stops_placed_L0 ((k : Int), (u : Int), i) = some (.inr ()) := by
  induction u using Nat.strongRecOn with
  | _ u ih =>
  intro hu
  have hy := geti_some hu
  generalize i.stops.l[u] = y at hy
  have e2 : (x.up == (u : Int)) = false := by rw [h]; simp
  have hend : stops_placed_L0 ((k : Int), -1, i) = some (.inr ()) := by
    rw [stops_placed_L0.eq_1]
    rfl
  rw [stops_placed_L0.eq_1, if_pos (by simp)]
  by_cases hv : 0 ≤ y.up ∧ y.up < u
  · obtain ⟨p, hp⟩ : ∃ p : Nat, y.up = p := ⟨y.up.toNat, by omega⟩
    simp only [hx, up_some hy hp (by omega), Option.bind_eq_bind, Option.bind_some, e2]
    simpa using ih p (by omega) (by omega)
  · simp only [hx, up_none hy hv, Option.bind_eq_bind, Option.bind_some, e2]
    simpa using hend
theorem placed_up (i : T.Inst) (k p : Nat) (x : T.Stop) (hx : geti i.stops.l (k : Int) = some x) (h : x.up = p) (u : Nat) : u < i.stops.l.length → (p = u ∨ p ∈ ancs i.stops.l u) →
    stops_placed_L0 ((k : Int), (u : Int), i) = some (.inl true) := by
  induction u using Nat.strongRecOn with
  | _ u ih =>
  intro hu hm
  have hy := geti_some hu
  have hy2 : i.stops.l[u]? = some i.stops.l[u] := by simp [hu]
  generalize i.stops.l[u] = y at hy hy2
  rw [stops_placed_L0.eq_1, if_pos (by simp)]
  by_cases e : p = u
  · subst e
    simp [hx, h]
  · have e2 : (x.up == (u : Int)) = false := by rw [h]; simp; omega
    have hm := hm.resolve_left e
    by_cases hv : 0 ≤ y.up ∧ y.up < u
    · obtain ⟨q, hq⟩ : ∃ q : Nat, y.up = q := ⟨y.up.toNat, by omega⟩
      rw [ancs_some hy2 hq (by omega)] at hm
      simp only [hx, up_some hy hq (by omega), Option.bind_eq_bind, Option.bind_some, e2]
      simpa using ih q (by omega) (by omega) (List.mem_cons.1 hm)
    · rw [ancs_none hy2 hv] at hm
      simp at hm
theorem placed_made (i : T.Inst) (hM : MadeL i.stops.l) (hl : i.stops.l.length ≤ 12) (k : Nat) (hk : k < i.stops.l.length) : stops_placed i (k : Int) = some true := by
  have hx := geti_some hk
  have hx2 : i.stops.l[k]? = some i.stops.l[k] := by simp [hk]
  generalize i.stops.l[k] = x at hx hx2
  have hm := hM k x hx2
  unfold stops_placed
  rw [wrap_in (by omega) (by omega)]
  rcases hm.up with h | ⟨v, h1, h2, h3⟩
  · have : stops_placed_L0 ((k : Int), (k : Int) - 1, i) = some (.inr ()) := by
      by_cases h0 : k = 0
      · subst h0
        rw [stops_placed_L0.eq_1]
        rfl
      · have e : (k : Int) - 1 = ((k - 1 : Nat) : Int) := by omega
        rw [e]
        exact placed_top i k x hx h (k - 1) (by omega)
    simp only [this, hx, Option.bind_eq_bind, Option.bind_some, h]
    rfl
  · have e : (k : Int) - 1 = ((k - 1 : Nat) : Int) := by omega
    rw [e, placed_up i k v x hx h1 (k - 1) (by omega) h3]
    rfl

theorem may_L0 (i : T.Inst) (hs : i.span = ⟨1, 1⟩) (hM : MadeL i.stops.l) (hl : i.stops.l.length ≤ 12) : ∀ (d k : Nat) (ends : MapII), k + d = i.stops.l.length → (∀ q, mhas ends q = true → mget ends q = 1) →
    ∃ e, stops_May_L0 (i.stops, (i.stops.l.length : Int), (k : Int), i, ends) = some (.inr e) := by
  intro d
  induction d with
  | zero =>
    intro k ends hk he
    refine ⟨ends, ?_⟩
    rw [stops_May_L0.eq_1, if_neg (by simp; omega)]
  | succ d ih =>
    intro k ends hk he
    have hkl : k < i.stops.l.length := by omega
    have hx := geti_some hkl
    have hx2 : i.stops.l[k]? = some i.stops.l[k] := by simp [hkl]
    have hp := placed_made i hM hl k hkl
    generalize i.stops.l[k] = x at hx hx2
    have hm := hM k x hx2
    have hw : IntKind.i64.wrap ((k : Int) + 1) = ((k + 1 : Nat) : Int) := wrap_succ (by omega)
    have hsp : x.span.frm = 1 ∧ x.span.to = 1 := by rw [hm.sp]; exact ⟨rfl, rfl⟩
    have hno : (mhas ends x.up && decide (x.span.frm < mget ends x.up)) = false := by
      cases h : mhas ends x.up with
      | false => rfl
      | true => simp [he _ h, hsp.1]
    have hnext : ∀ q, mhas (mput ends x.up x.span.to) q = true → mget (mput ends x.up x.span.to) q = 1 := by
      intro q hq
      rw [mget_put]
      split
      · exact hsp.2
      · rename_i hn
        rw [mhas_put, if_neg hn] at hq
        exact he q hq
    rw [stops_May_L0.eq_1, if_pos (by simp; omega)]
    simp only [hx, hp, Option.bind_eq_bind, Option.bind_some, hw]
    rw [if_neg (by simp [hsp])]
    by_cases h0 : 0 ≤ x.up
    · rw [if_pos (by simpa using h0)]
      obtain ⟨p, hpp⟩ : ∃ p : Nat, x.up = p := ⟨x.up.toNat, by omega⟩
      have hpl : p < i.stops.l.length := by have := hm.lt; omega
      have hz := geti_some hpl
      have hz2 : i.stops.l[p]? = some i.stops.l[p] := by simp [hpl]
      generalize i.stops.l[p] = z at hz hz2
      have hsz := (hM p z hz2).sp
      have hwi : span_Within x.span z.span = some true := by unfold span_Within; simp [hm.sp, hsz]
      have hz' : geti i.stops.l x.up = some z := by rw [hpp]; exact hz
      simp only [hz', hwi, Option.bind_some, hno]
      simpa using ih (k + 1) _ (by omega) hnext
    · rw [if_neg (by simpa using h0)]
      have hwi : span_Within x.span i.span = some true := by unfold span_Within; simp [hm.sp, hs]
      simp only [hwi, Option.bind_some, hno]
      simpa using ih (k + 1) _ (by omega) hnext

theorem may_made (i : T.Inst) (hs : i.span = ⟨1, 1⟩) (hM : MadeL i.stops.l) (hl : i.stops.l.length ≤ 12) : stops_May i 1 = some true := by
  obtain ⟨e, he⟩ := may_L0 i hs hM hl i.stops.l.length 0 ⟨[], 0⟩ (by omega) (fun q hq => by simp [mhas, lfind] at hq)
  simp only [Int.natCast_zero] at he
  unfold stops_May
  have : span_May i.span 1 = some true := by unfold span_May; simp [hs]
  simp [this, he]
end Go.Proofs.Ytdhgdeelagmbpaa
