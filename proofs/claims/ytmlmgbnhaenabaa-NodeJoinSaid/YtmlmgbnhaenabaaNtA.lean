/-
  Trees: an induction for them, how much they weigh, what is left of a budget.
-/
import Derived.Test.YtmlmgbnhaenabaaSh
set_option linter.unusedSimpArgs false
set_option linter.unusedVariables false
namespace Go.Proofs.Ytmlmgbnhaenabaa
open Go Go.Gm

/-! Walking through a list by its places. -/
theorem dropN {α : Type} {xs : List α} {k : Nat} (h : xs.drop k = []) : ¬ ((k : Int) < (xs.length : Int)) := by
  have := drop_none h; omega
theorem dropC {α : Type} {xs r : List α} {x : α} {k : Nat} (h : xs.drop k = x :: r) : (k : Int) < (xs.length : Int) ∧ geti xs (k : Int) = some x ∧ xs.drop (k + 1) = r ∧ x ∈ xs := by
  obtain ⟨h1, h2, h3⟩ := drop_cons h
  refine ⟨by omega, ?_, h2, List.mem_of_getElem? h1⟩
  rw [geti_some h3]
  simpa [List.getElem?_eq_getElem h3] using h1
theorem wrS {α : Type} {xs : List α} {k : Nat} (hl : xs.length ≤ 9223372036854775807) (h : (k : Int) < (xs.length : Int)) : IntKind.i64.wrap ((k : Int) + 1) = ((k + 1 : Nat) : Int) := wrap_succ (by omega)
theorem wr {n : Int} (h1 : -(2 ^ 62) ≤ n) (h2 : n ≤ 2 ^ 62) : IntKind.i64.wrap n = n := wrap_in (by omega) (by omega)

/-! Inductions. -/
theorem sizeOf_mem {α : Type} [SizeOf α] {x : α} {s : Sl α} (h : x ∈ s.l) : SizeOf.sizeOf x < SizeOf.sizeOf s := by
  have := List.sizeOf_lt_of_mem h
  cases s
  simp only [Sl.mk.sizeOf_spec]
  simp only at this
  omega
theorem rx_ind {P : T.Rx → Prop} (h : ∀ x, (∀ y ∈ x.kids.l, P y) → P x) (x : T.Rx) : P x := by
  apply h
  intro y hy
  have : SizeOf.sizeOf y < SizeOf.sizeOf x := by
    have := sizeOf_mem hy
    cases x
    simp only [T.Rx.mk.sizeOf_spec] at *
    omega
  exact rx_ind h y
termination_by SizeOf.sizeOf x
theorem sn_ind {P : T.Snip → Prop} (h : ∀ x, (∀ y ∈ x.kids.l, P y) → P x) (x : T.Snip) : P x := by
  apply h
  intro y hy
  have : SizeOf.sizeOf y < SizeOf.sizeOf x := by
    have := sizeOf_mem hy
    cases x
    simp only [T.Snip.mk.sizeOf_spec] at *
    omega
  exact sn_ind h y
termination_by SizeOf.sizeOf x

/-! Weights. -/
def sumN : List Nat → Nat
  | [] => 0
  | a :: r => a + sumN r
theorem sumN_append : ∀ a b : List Nat, sumN (a ++ b) = sumN a + sumN b
  | [], b => by simp [sumN]
  | x :: a, b => by simp only [List.cons_append, sumN, sumN_append a b]; omega
theorem sumN_mem : ∀ {l : List Nat} {x : Nat}, x ∈ l → x ≤ sumN l
  | y :: l, x, h => by
    simp only [sumN]
    rcases List.mem_cons.1 h with rfl | h
    · omega
    · have := sumN_mem h; omega
theorem sumN_len {α : Type} {f : α → Nat} (hf : ∀ a, 1 ≤ f a) : ∀ l : List α, l.length ≤ sumN (l.map f)
  | [] => by simp [sumN]
  | a :: l => by
    have := sumN_len hf l
    have := hf a
    simp only [List.map_cons, sumN, List.length_cons]
    omega
def rowW (r : T.Row) : Nat := 1 + r.frm.length + r.to.length
mutual
def rxW : T.Rx → Nat
  | ⟨_, c, _, rows, _, _, _, kids⟩ => 1 + c.length + sumN (rows.l.map rowW) + rxWS kids
def rxWS : Sl T.Rx → Nat
  | ⟨_, l⟩ => rxWL l
def rxWL : List T.Rx → Nat
  | [] => 0
  | x :: r => rxW x + rxWL r
end
theorem rxWL_sum : ∀ l : List T.Rx, rxWL l = sumN (l.map rxW)
  | [] => by simp [rxWL, sumN]
  | x :: r => by simp [rxWL, sumN, rxWL_sum r]
theorem rxW_eq (x : T.Rx) : rxW x = 1 + x.char.length + sumN (x.rows.l.map rowW) + sumN (x.kids.l.map rxW) := by
  cases x with | mk a b c d e f g h => cases h; simp [rxW, rxWS, rxWL_sum]
def fmW (f : T.Fmt) : Nat := 1 + f.thn.length + f.els.length
def formW (f : T.Form) : Nat := rxW f.rx + sumN (f.fmts.l.map fmW)
def opW (s : Bytes) : Nat := 1 + s.length
mutual
def snW : T.Snip → Nat
  | ⟨_, t, _, _, _, f, o, kids⟩ => 1 + t.length + formW f + sumN (o.l.map opW) + snWS kids
def snWS : Sl T.Snip → Nat
  | ⟨_, l⟩ => snWL l
def snWL : List T.Snip → Nat
  | [] => 0
  | x :: r => snW x + snWL r
end
theorem snWL_sum : ∀ l : List T.Snip, snWL l = sumN (l.map snW)
  | [] => by simp [snWL, sumN]
  | x :: r => by simp [snWL, sumN, snWL_sum r]
theorem snW_eq (x : T.Snip) : snW x = 1 + x.text.length + formW x.form + sumN (x.opts.l.map opW) + sumN (x.kids.l.map snW) := by
  cases x with | mk a b c d e f g h => cases h; simp [snW, snWS, snWL_sum]

/-! What is left of a budget. -/
def BB : Int := 1099511627776
theorem wRx_L0 (x : T.Rx) (hl : x.rows.l.length ≤ 9223372036854775807) : ∀ (r : List T.Row) (k : Nat) (n : Int), x.rows.l.drop k = r → -(2 * BB) ≤ n → n ≤ BB →
    (∃ m, law0_Rx_L0 (n, (k : Int), x) = some (.inl (m, -1))) ∨ law0_Rx_L0 (n, (k : Int), x) = some (.inr (n - sumN (r.map rowW))) ∧ -(2 * BB) ≤ n - sumN (r.map rowW) := by
  intro r
  induction r with
  | nil =>
    intro k n hk h1 h2
    right
    rw [law0_Rx_L0.eq_1]
    simp [dropN hk, sumN, h1]
  | cons y r ih =>
    intro k n hk h1 h2
    obtain ⟨a1, a2, a3, _⟩ := dropC hk
    rw [law0_Rx_L0.eq_1]
    simp only [a1, decide_true, if_true, a2, Option.bind_eq_bind, Option.bind_some, wrS hl a1]
    by_cases c1 : (y.frm.length : Int) ≥ n
    · left; simp [c1]
    · by_cases c2 : (y.to.length : Int) ≥ n
      · left; simp [c1, c2]
      · have e1 : IntKind.i64.wrap (n - 1) = n - 1 := wr (by unfold BB at *; omega) (by unfold BB at *; omega)
        have e2 : IntKind.i64.wrap (n - 1 - y.frm.length) = n - 1 - y.frm.length := wr (by unfold BB at *; omega) (by unfold BB at *; omega)
        have e3 : IntKind.i64.wrap (n - 1 - y.frm.length - y.to.length) = n - 1 - y.frm.length - y.to.length := wr (by unfold BB at *; omega) (by unfold BB at *; omega)
        simp only [c1, c2, decide_false, e1, e2, e3]
        have e4 : n - sumN ((y :: r).map rowW) = (n - 1 - y.frm.length - y.to.length) - sumN (r.map rowW) := by
          simp only [List.map_cons, sumN, rowW]; omega
        rw [e4]
        simpa using ih (k + 1) _ a3 (by unfold BB at *; omega) (by unfold BB at *; omega)
theorem wRx_L2 (x : T.Rx) (hl : x.kids.l.length ≤ 9223372036854775807) (ih0 : ∀ y ∈ x.kids.l, ∀ n, -(2 * BB) ≤ n → n ≤ BB → ∃ r, law0_Rx (y, n) = some r ∧ -(2 * BB) ≤ r ∧ r ≤ BB ∧ (0 ≤ r → r = n - rxW y)) :
    ∀ (r : List T.Rx) (k : Nat) (n : Int), x.kids.l.drop k = r → -(2 * BB) ≤ n → n ≤ BB →
    ∃ m, law0_Rx_L2 (n, (k : Int), x) = some m ∧ -(2 * BB) ≤ m ∧ m ≤ BB ∧ (0 ≤ m → m = n - sumN (r.map rxW)) := by
  intro r
  induction r with
  | nil =>
    intro k n hk h1 h2
    rw [law0_Rx_L2.eq_1]
    exact ⟨n, by simp [dropN hk], h1, h2, by simp [sumN]⟩
  | cons y r ih =>
    intro k n hk h1 h2
    obtain ⟨a1, a2, a3, a4⟩ := dropC hk
    rw [law0_Rx_L2.eq_1]
    by_cases hn : n ≥ 0
    · obtain ⟨r1, b1, b2, b3, b4⟩ := ih0 y a4 n h1 h2
      obtain ⟨m, c1, c2, c3, c4⟩ := ih (k + 1) r1 a3 b2 b3
      refine ⟨m, ?_, c2, c3, fun h => ?_⟩
      · simp only [a1, hn, decide_true, Bool.and_self, if_true, a2, Option.bind_eq_bind, Option.bind_some, wrS hl a1, b1, c1]
      · have c5 := c4 h
        have hr1 : 0 ≤ r1 := by omega
        have b5 := b4 hr1
        simp only [List.map_cons, sumN]
        omega
    · exact ⟨n, by simp [hn], h1, h2, fun h => absurd h hn⟩
theorem wRx : ∀ (x : T.Rx) (n : Int), -(2 * BB) ≤ n → n ≤ BB → ∃ r, law0_Rx (x, n) = some r ∧ -(2 * BB) ≤ r ∧ r ≤ BB ∧ (0 ≤ r → r = n - rxW x) := by
  apply rx_ind
  intro x ih0 n h1 h2
  rw [law0_Rx.eq_1]
  by_cases c1 : (x.char.length : Int) ≥ n
  · exact ⟨-1, by simp [c1], by unfold BB; omega, by unfold BB; omega, by omega⟩
  by_cases c2 : (x.rows.l.length : Int) ≥ n
  · exact ⟨-1, by simp [c1, c2], by unfold BB; omega, by unfold BB; omega, by omega⟩
  by_cases c3 : (x.kids.l.length : Int) ≥ n
  · exact ⟨-1, by simp [c1, c2, c3], by unfold BB; omega, by unfold BB; omega, by omega⟩
  have e1 : IntKind.i64.wrap (n - 1) = n - 1 := wr (by unfold BB at *; omega) (by unfold BB at *; omega)
  have e2 : IntKind.i64.wrap (n - 1 - x.char.length) = n - 1 - x.char.length := wr (by unfold BB at *; omega) (by unfold BB at *; omega)
  have h3 := wRx_L0 x (by unfold BB at *; omega) x.rows.l 0 (n - 1 - x.char.length) rfl (by unfold BB at *; omega) (by unfold BB at *; omega)
  simp only [c1, c2, c3, decide_false, Bool.or_self, Bool.false_eq_true, if_false, e1, e2]
  rw [show ((0 : Int)) = ((0 : Nat) : Int) from rfl]
  rcases h3 with ⟨m, h3⟩ | ⟨h3, h4⟩
  · rw [h3]
    exact ⟨-1, rfl, by unfold BB; omega, by unfold BB; omega, by omega⟩
  · rw [h3]
    obtain ⟨m, g1, g2, g3, g4⟩ := wRx_L2 x (by unfold BB at *; omega) ih0 x.kids.l 0 _ rfl h4 (by unfold BB at *; omega)
    refine ⟨m, ?_, g2, g3, fun h => ?_⟩
    · simp only [Option.bind_eq_bind, Option.bind_some, g1]
    · have := g4 h
      rw [rxW_eq]
      omega
theorem wFmts_L0 (fs : Sl T.Fmt) (hl : fs.l.length ≤ 9223372036854775807) : ∀ (r : List T.Fmt) (k : Nat) (n : Int), fs.l.drop k = r → -(2 * BB) ≤ n → n ≤ BB →
    (∃ m, law0_FmtsLeft_L0 (fs, n, (k : Int)) = some (.inl (m, -1))) ∨ law0_FmtsLeft_L0 (fs, n, (k : Int)) = some (.inr (n - sumN (r.map fmW))) ∧ -(2 * BB) ≤ n - sumN (r.map fmW) := by
  intro r
  induction r with
  | nil =>
    intro k n hk h1 h2
    right
    rw [law0_FmtsLeft_L0.eq_1]
    simp [dropN hk, sumN, h1]
  | cons y r ih =>
    intro k n hk h1 h2
    obtain ⟨a1, a2, a3, _⟩ := dropC hk
    rw [law0_FmtsLeft_L0.eq_1]
    simp only [a1, decide_true, if_true, a2, Option.bind_eq_bind, Option.bind_some, wrS hl a1]
    by_cases c1 : (y.thn.length : Int) ≥ n
    · left; simp [c1]
    · by_cases c2 : (y.els.length : Int) ≥ n
      · left; simp [c1, c2]
      · have e1 : IntKind.i64.wrap (n - 1) = n - 1 := wr (by unfold BB at *; omega) (by unfold BB at *; omega)
        have e2 : IntKind.i64.wrap (n - 1 - y.thn.length) = n - 1 - y.thn.length := wr (by unfold BB at *; omega) (by unfold BB at *; omega)
        have e3 : IntKind.i64.wrap (n - 1 - y.thn.length - y.els.length) = n - 1 - y.thn.length - y.els.length := wr (by unfold BB at *; omega) (by unfold BB at *; omega)
        simp only [c1, c2, decide_false, e1, e2, e3]
        have e4 : n - sumN ((y :: r).map fmW) = (n - 1 - y.thn.length - y.els.length) - sumN (r.map fmW) := by
          simp only [List.map_cons, sumN, fmW]; omega
        rw [e4]
        simpa using ih (k + 1) _ a3 (by unfold BB at *; omega) (by unfold BB at *; omega)
theorem wForm (f : T.Form) (hl : f.fmts.l.length ≤ 9223372036854775807) (n : Int) (h1 : -(2 * BB) ≤ n) (h2 : n ≤ BB) : ∃ r, law0_Form f n = some r ∧ -(2 * BB) ≤ r ∧ r ≤ BB ∧ (0 ≤ r → r = n - formW f) := by
  obtain ⟨r, a1, a2, a3, a4⟩ := wRx f.rx n h1 h2
  unfold law0_Form law0_FmtsLeft
  simp only [a1, Option.bind_eq_bind, Option.bind_some]
  by_cases hr : r < 0
  · exact ⟨r, by simp [hr], a2, a3, by omega⟩
  · have h3 := wFmts_L0 f.fmts hl f.fmts.l 0 r rfl a2 a3
    rw [show ((0 : Nat) : Int) = 0 from rfl] at h3
    simp only [hr, decide_false, Bool.false_eq_true, if_false]
    rcases h3 with ⟨m, h3⟩ | ⟨h3, h4⟩
    · exact ⟨-1, by simp [h3], by unfold BB; omega, by unfold BB; omega, by omega⟩
    · refine ⟨_, by simp [h3], h4, by unfold BB at *; omega, fun _ => ?_⟩
      have := a4 (by omega)
      unfold formW
      omega
end Go.Proofs.Ytmlmgbnhaenabaa
