/-
  What is left of a budget behind a tree; what a tree that is within it holds.
-/
import Derived.Test.YtmlmgbnhaenabaaNtA
set_option linter.unusedSimpArgs false
set_option linter.unusedVariables false
namespace Go.Proofs.Ytmlmgbnhaenabaa
open Go Go.Gm

theorem maxLen_le : maxLen ≤ 9223372036854775807 := by decide
theorem wSn_L2 (l : Sl T.Snip) (i : Nat) (x : T.Snip) (hx : geti l.l (i : Int) = some x) (hl : x.opts.l.length ≤ 9223372036854775807) : ∀ (r : List Bytes) (k : Nat) (n : Int), x.opts.l.drop k = r → -(2 * BB) ≤ n → n ≤ BB →
    (∃ m, law0_Snips_L2 (l, n, (i : Int), (k : Int)) = some (.inl (m, -1))) ∨ law0_Snips_L2 (l, n, (i : Int), (k : Int)) = some (.inr (n - sumN (r.map opW))) ∧ -(2 * BB) ≤ n - sumN (r.map opW) := by
  intro r
  induction r with
  | nil =>
    intro k n hk h1 h2
    right
    rw [law0_Snips_L2.eq_1]
    have := drop_none hk
    simp [hx, sumN, h1]
    omega
  | cons y r ih =>
    intro k n hk h1 h2
    obtain ⟨a1, a2, a3, _⟩ := dropC hk
    rw [law0_Snips_L2.eq_1]
    simp only [hx, a1, decide_true, if_true, a2, Option.bind_eq_bind, Option.bind_some, wrS hl a1]
    by_cases c1 : (y.length : Int) ≥ n
    · left; simp [c1]
    · have e1 : IntKind.i64.wrap (n - 1) = n - 1 := wr (by unfold BB at *; omega) (by unfold BB at *; omega)
      have e2 : IntKind.i64.wrap (n - 1 - y.length) = n - 1 - y.length := wr (by unfold BB at *; omega) (by unfold BB at *; omega)
      simp only [c1, decide_false, e1, e2]
      have e4 : n - sumN ((y :: r).map opW) = (n - 1 - y.length) - sumN (r.map opW) := by
        simp only [List.map_cons, sumN, opW]; omega
      rw [e4]
      simpa using ih (k + 1) _ a3 (by unfold BB at *; omega) (by unfold BB at *; omega)
theorem wSn_L0 (l : Sl T.Snip) (hok : slOk T.Snip.ok l)
    (ih0 : ∀ x ∈ l.l, ∀ n, -(2 * BB) ≤ n → n ≤ BB → ∃ r, law0_Snips (x.kids, n) = some r ∧ -(2 * BB) ≤ r ∧ r ≤ BB ∧ (0 ≤ r → r = n - sumN (x.kids.l.map snW))) :
    ∀ (r : List T.Snip) (k : Nat) (n : Int), l.l.drop k = r → -(2 * BB) ≤ n → n ≤ BB →
    (∃ m, law0_Snips_L0 (l, n, (k : Int)) = some (.inl (m, -1))) ∨ (∃ m, law0_Snips_L0 (l, n, (k : Int)) = some (.inr m) ∧ -(2 * BB) ≤ m ∧ m ≤ BB ∧ (0 ≤ m → m = n - sumN (r.map snW))) := by
  have hml := maxLen_le
  have hl : l.l.length ≤ 9223372036854775807 := by have := hok.1; omega
  intro r
  induction r with
  | nil =>
    intro k n hk h1 h2
    right
    rw [law0_Snips_L0.eq_1]
    exact ⟨n, by simp [dropN hk], h1, h2, by simp [sumN]⟩
  | cons x r ih =>
    intro k n hk h1 h2
    obtain ⟨a1, a2, a3, a4⟩ := dropC hk
    have hxo := (T.Snip.ok_eq x).1 (hok.2 x a4)
    rw [law0_Snips_L0.eq_1]
    by_cases hn : n ≥ 0
    · simp only [a1, hn, decide_true, Bool.and_self, if_true, a2, Option.bind_eq_bind, Option.bind_some, wrS hl a1]
      by_cases c1 : (x.text.length : Int) ≥ n
      · left; simp [c1]
      by_cases c2 : (x.opts.l.length : Int) ≥ n
      · left; simp [c1, c2]
      have e1 : IntKind.i64.wrap (n - 1) = n - 1 := wr (by unfold BB at *; omega) (by unfold BB at *; omega)
      have e2 : IntKind.i64.wrap (n - 1 - x.text.length) = n - 1 - x.text.length := wr (by unfold BB at *; omega) (by unfold BB at *; omega)
      obtain ⟨f, f1, f2, f3, f4⟩ := wForm x.form (by have := hxo.2.2.2.2.2.1.2.1.1; omega) (n - 1 - x.text.length) (by unfold BB at *; omega) (by unfold BB at *; omega)
      simp only [c1, c2, decide_false, Bool.false_eq_true, if_false, e1, e2, f1, Option.bind_some]
      have h3 := wSn_L2 l k x a2 (by have := hxo.2.2.2.2.2.2.1.1; omega) x.opts.l 0 f rfl f2 f3
      rw [show ((0 : Nat) : Int) = 0 from rfl] at h3
      rcases h3 with ⟨m, h3⟩ | ⟨h3, h4⟩
      · left; simp [h3]
      · simp only [h3, Option.bind_some]
        by_cases c3 : f - sumN (x.opts.l.map opW) ≥ 0
        · obtain ⟨r1, b1, b2, b3, b4⟩ := ih0 x a4 _ h4 (by omega)
          simp only [c3, decide_true, if_true, b1, Option.bind_some]
          rcases ih (k + 1) r1 a3 b2 b3 with ⟨m, h5⟩ | ⟨m, h5, h6, h7, h8⟩
          · left; exact ⟨m, h5⟩
          · right
            refine ⟨m, h5, h6, h7, fun hm => ?_⟩
            have g1 := h8 hm
            have g2 := b4 (by omega)
            have g3 := f4 (by omega)
            simp only [List.map_cons, sumN, snW_eq x]
            omega
        · simp only [c3, decide_false, Bool.false_eq_true, if_false]
          rcases ih (k + 1) _ a3 h4 (by omega) with ⟨m, h5⟩ | ⟨m, h5, h6, h7, h8⟩
          · left; exact ⟨m, h5⟩
          · right
            exact ⟨m, h5, h6, h7, fun hm => by have := h8 hm; omega⟩
    · right
      exact ⟨n, by simp [hn], h1, h2, fun h => absurd h hn⟩
theorem wSn_list (l : Sl T.Snip) (hok : slOk T.Snip.ok l)
    (ih0 : ∀ x ∈ l.l, ∀ n, -(2 * BB) ≤ n → n ≤ BB → ∃ r, law0_Snips (x.kids, n) = some r ∧ -(2 * BB) ≤ r ∧ r ≤ BB ∧ (0 ≤ r → r = n - sumN (x.kids.l.map snW))) (n : Int) (h1 : -(2 * BB) ≤ n) (h2 : n ≤ BB) :
    ∃ r, law0_Snips (l, n) = some r ∧ -(2 * BB) ≤ r ∧ r ≤ BB ∧ (0 ≤ r → r = n - sumN (l.l.map snW)) := by
  rw [law0_Snips.eq_1]
  have h3 := wSn_L0 l hok ih0 l.l 0 n rfl h1 h2
  rw [show ((0 : Nat) : Int) = 0 from rfl] at h3
  rcases h3 with ⟨m, h3⟩ | ⟨m, h3, h4, h5, h6⟩
  · exact ⟨-1, by simp [h3], by unfold BB; omega, by unfold BB; omega, by omega⟩
  · exact ⟨m, by simp [h3], h4, h5, h6⟩
theorem wSn : ∀ (x : T.Snip), x.ok → ∀ n, -(2 * BB) ≤ n → n ≤ BB → ∃ r, law0_Snips (x.kids, n) = some r ∧ -(2 * BB) ≤ r ∧ r ≤ BB ∧ (0 ≤ r → r = n - sumN (x.kids.l.map snW)) := by
  apply sn_ind
  intro x ih0 hx n h1 h2
  have hxo := (T.Snip.ok_eq x).1 hx
  have hk : slOk T.Snip.ok x.kids := hxo.2.2.2.2.2.2.2.1
  exact wSn_list x.kids hk (fun y hy => ih0 y hy (hk.2 y hy)) n h1 h2
/-- A tree is within a budget, or the budget is spent. -/
theorem snips_left (s : Sl T.Snip) (hok : slOk T.Snip.ok s) (n : Nat) (hn : (n : Int) ≤ BB) : ∃ r, law0_Snips (s, (n : Int)) = some r ∧ (r < 0 ∨ sumN (s.l.map snW) ≤ n) := by
  obtain ⟨r, h1, _, _, h4⟩ := wSn_list s hok (fun x hx => wSn x (hok.2 x hx)) n (by unfold BB; omega) hn
  refine ⟨r, h1, ?_⟩
  by_cases h : r < 0
  · exact .inl h
  · right; have := h4 (by omega); omega

/-! What a light tree holds. -/
theorem sumN_map_mem {α : Type} {f : α → Nat} {l : List α} {a : α} (h : a ∈ l) : f a ≤ sumN (l.map f) := sumN_mem (List.mem_map.2 ⟨a, h, rfl⟩)
theorem rowW_pos (r : T.Row) : 1 ≤ rowW r := by unfold rowW; omega
theorem rxW_pos (x : T.Rx) : 1 ≤ rxW x := by rw [rxW_eq]; omega
theorem fmW_pos (x : T.Fmt) : 1 ≤ fmW x := by unfold fmW; omega
theorem snW_pos (x : T.Snip) : 1 ≤ snW x := by rw [snW_eq]; omega
theorem opW_pos (x : Bytes) : 1 ≤ opW x := by unfold opW; omega
theorem rxW_kids (x : T.Rx) : x.kids.l.length < rxW x := by have := sumN_len rxW_pos x.kids.l; rw [rxW_eq]; omega
theorem rxW_rows (x : T.Rx) : x.rows.l.length < rxW x := by have := sumN_len rowW_pos x.rows.l; rw [rxW_eq]; omega
theorem rxW_kid {x y : T.Rx} (h : y ∈ x.kids.l) : rxW y < rxW x := by have := sumN_map_mem (f := rxW) h; rw [rxW_eq x]; omega
theorem formW_fmts (f : T.Form) : f.fmts.l.length ≤ formW f := by have := sumN_len fmW_pos f.fmts.l; unfold formW; omega
theorem snW_kids (x : T.Snip) : x.kids.l.length < snW x := by have := sumN_len snW_pos x.kids.l; rw [snW_eq]; omega
theorem snW_opts (x : T.Snip) : x.opts.l.length < snW x := by have := sumN_len opW_pos x.opts.l; rw [snW_eq]; omega
theorem snW_kid {x y : T.Snip} (h : y ∈ x.kids.l) : snW y < snW x := by have := sumN_map_mem (f := snW) h; rw [snW_eq x]; omega
theorem snW_form (x : T.Snip) : formW x.form < snW x := by rw [snW_eq]; omega
theorem snW_text (x : T.Snip) : x.text.length < snW x := by rw [snW_eq]; omega
end Go.Proofs.Ytmlmgbnhaenabaa
