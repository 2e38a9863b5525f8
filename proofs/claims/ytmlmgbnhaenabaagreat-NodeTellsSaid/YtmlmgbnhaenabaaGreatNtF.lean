/-
  Transforms that may be: the program's word is the document's.
-/
import Derived.Test.YtmlmgbnhaenabaaGreatNtE
set_option linter.unusedSimpArgs false
set_option linter.unusedVariables false
namespace Go.Proofs.YtmlmgbnhaenabaaGreat
open Go Go.Gm

/-- What an expression's budget comes to. -/
def FitsIs (x : T.Rx) (m : Bool) : Prop := ∀ left deep : Int, -BB ≤ left → left ≤ BB → -BB ≤ deep → deep ≤ BB →
  ∃ l', rxtree_fits (x, left, deep) = some (l', m && (decide ((rxP x : Int) ≤ left) && decide ((rxD x : Int) ≤ deep))) ∧
    ((m && (decide ((rxP x : Int) ≤ left) && decide ((rxD x : Int) ≤ deep))) = true → l' = left - rxP x)
theorem fits_L0 (x : T.Rx) (hl : x.kids.l.length ≤ 9223372036854775807) (mm : T.Rx → Bool) (ih0 : ∀ y ∈ x.kids.l, FitsIs y (mm y)) (deep : Int) (d1 : 0 ≤ deep) (d2 : deep ≤ BB) :
    ∀ (r : List T.Rx) (k : Nat) (left : Int), x.kids.l.drop k = r → 0 ≤ left → left ≤ BB →
    ((r.all mm && (decide ((sumN (r.map rxP) : Int) ≤ left) && decide ((maxN (r.map rxD) : Int) ≤ deep))) = true ∧ rxtree_fits_L0 (left, deep, x.kids, (x.kids.l.length : Int), (k : Int), x) = some (.inr (left - sumN (r.map rxP)))) ∨
    ((r.all mm && (decide ((sumN (r.map rxP) : Int) ≤ left) && decide ((maxN (r.map rxD) : Int) ≤ deep))) = false ∧ ∃ a b, rxtree_fits_L0 (left, deep, x.kids, (x.kids.l.length : Int), (k : Int), x) = some (.inl (a, b, false))) := by
  intro r
  induction r with
  | nil =>
    intro k left hk l1 l2
    left
    rw [rxtree_fits_L0.eq_1, if_neg (by simpa using dropN hk)]
    simp [sumN, maxN, l1, d1]
  | cons y r ih =>
    intro k left hk l1 l2
    obtain ⟨a1, a2, a3, a4⟩ := dropC hk
    obtain ⟨l', e1, e2⟩ := ih0 y a4 left deep (by unfold BB at *; omega) l2 (by unfold BB at *; omega) d2
    rw [rxtree_fits_L0.eq_1]
    simp only [a1, decide_true, if_true, a2, Option.bind_eq_bind, Option.bind_some, wrS hl a1, e1]
    cases hc : (mm y && (decide ((rxP y : Int) ≤ left) && decide ((rxD y : Int) ≤ deep)))
    · right
      refine ⟨?_, l', l', rfl⟩
      rw [Bool.eq_false_iff] at hc ⊢
      intro h
      apply hc
      simp only [List.map_cons, sumN, maxN, List.all_cons, Bool.and_eq_true, decide_eq_true_eq] at h ⊢
      exact ⟨h.1.1, by omega, by omega⟩
    · have e3 := e2 hc
      simp only [Bool.and_eq_true, decide_eq_true_eq] at hc
      rcases ih (k + 1) l' a3 (by omega) (by omega) with ⟨h1, h2⟩ | ⟨h1, a, b, h2⟩
      · left
        refine ⟨?_, ?_⟩
        · simp only [List.map_cons, sumN, maxN, List.all_cons, Bool.and_eq_true, decide_eq_true_eq] at h1 ⊢
          exact ⟨⟨hc.1, h1.1⟩, by omega, by omega⟩
        · simp only [Bool.not_true, Bool.false_eq_true, if_false, h2, List.map_cons, sumN, Option.some.injEq, Sum.inr.injEq]
          omega
      · right
        refine ⟨?_, a, b, ?_⟩
        · rw [Bool.eq_false_iff] at h1 ⊢
          intro h
          apply h1
          simp only [List.map_cons, sumN, maxN, List.all_cons, Bool.and_eq_true, decide_eq_true_eq] at h ⊢
          exact ⟨h.1.2, by omega, by omega⟩
        · simp only [Bool.not_true, Bool.false_eq_true, if_false, h2]
theorem fits_ok : ∀ x : T.Rx, Light x → ∃ m, ref13_may x = some m ∧ FitsIs x m := by
  apply rx_ind (P := fun x => Light x → ∃ m, ref13_may x = some m ∧ FitsIs x m)
  intro x ih0 hw
  have hk := rxW_kids x
  have hl : x.kids.l.length ≤ 9223372036854775807 := by unfold Light at hw; omega
  -- the kids
  let mm : T.Rx → Bool := fun y => ref13_may y == some true
  have hm : ∀ y ∈ x.kids.l, ref13_may y = some (mm y) ∧ FitsIs y (mm y) := by
    intro y hy
    obtain ⟨m, m1, m2⟩ := ih0 y hy (light_kid hw hy)
    have : mm y = m := by simp only [mm, m1]; cases m <;> rfl
    rw [this]
    exact ⟨m1, m2⟩
  have hL0 : ∀ (r : List T.Rx) (k : Nat), x.kids.l.drop k = r → ref13_may_L0 ((x.kids.l.length : Int), (k : Int), x) = some (lr (r.all mm)) := by
    intro r
    induction r with
    | nil =>
      intro k hk
      rw [ref13_may_L0.eq_1, if_neg (by simpa using dropN hk)]; rfl
    | cons y r ih =>
      intro k hk
      obtain ⟨a1, a2, a3, a4⟩ := dropC hk
      rw [ref13_may_L0.eq_1]
      simp only [a1, decide_true, if_true, a2, Option.bind_eq_bind, Option.bind_some, wrS hl a1, (hm y a4).1, ih (k + 1) a3, List.all_cons]
      cases mm y <;> simp [lr]
  obtain ⟨f, f1, f2⟩ := fields_ok x hw
  have hmay := f2 _ (hL0 x.kids.l 0 rfl)
  refine ⟨x.kids.l.all mm && f, hmay, ?_⟩
  intro left deep l1 l2 d1 d2
  have hP := rxP_eq x
  have hD := rxD_eq x
  have hg : rxtree_group x.kind = some (isGr x.kind) := by
    unfold rxtree_group isGr; cases (x.kind == 5) <;> simp
  -- how deep the kids may be
  have key : ∀ deep' : Int, deep' ≤ BB → -BB - 1 ≤ deep' → (deep' = deep - (if isGr x.kind then 1 else 0)) →
      ∃ l', (if (decide (left < 1) || decide (deep' < 0)) = true then some (left, false) else rxtree_fields x >>= fun v7 => if (!v7) = true then some (left, false) else rxtree_fits_L0 ((IntKind.i64.wrap (left - (1 : Int))), deep', x.kids, (x.kids.l.length : Int), (0 : Int), x) >>= fun v10 => match v10 with | .inl y11 => some (y11.2.1, y11.2.2) | .inr y12 => some (y12, true)) =
        some (l', (x.kids.l.all mm && f) && (decide ((rxP x : Int) ≤ left) && decide ((rxD x : Int) ≤ deep))) ∧ (((x.kids.l.all mm && f) && (decide ((rxP x : Int) ≤ left) && decide ((rxD x : Int) ≤ deep))) = true → l' = left - rxP x) := by
    intro deep' h1 h2 h3
    by_cases c1 : left < 1
    · refine ⟨left, ?_, ?_⟩
      · have : ¬ ((rxP x : Int) ≤ left) := by omega
        simp [c1, this]
      · intro h
        simp only [Bool.and_eq_true, decide_eq_true_eq] at h
        omega
    by_cases c2 : deep' < 0
    · have : ¬ ((rxD x : Int) ≤ deep) := by split at h3 <;> rename_i hgr <;> simp only [hgr, if_true, if_false, Bool.false_eq_true] at hD <;> omega
      refine ⟨left, ?_, ?_⟩
      · simp [c2, this]
      · intro h
        simp only [Bool.and_eq_true, decide_eq_true_eq] at h
        omega
    simp only [c1, c2, decide_false, Bool.or_self, Bool.false_eq_true, if_false, f1, Option.bind_eq_bind, Option.bind_some]
    cases f
    · exact ⟨left, by simp, by simp⟩
    · have e : IntKind.i64.wrap (left - 1) = left - 1 := wr (by unfold BB at *; omega) (by unfold BB at *; omega)
      have h4 := fits_L0 x hl mm (fun y hy => (hm y hy).2) deep' (by omega) h1 x.kids.l 0 (left - 1) rfl (by omega) (by omega)
      rw [show ((0 : Nat) : Int) = 0 from rfl] at h4
      simp only [Bool.not_true, Bool.false_eq_true, if_false, e]
      rcases h4 with ⟨h5, h6⟩ | ⟨h5, a, b, h6⟩
      · have : ((x.kids.l.all mm && true) && (decide ((rxP x : Int) ≤ left) && decide ((rxD x : Int) ≤ deep))) = true := by
          simp only [Bool.and_eq_true, decide_eq_true_eq] at h5 ⊢
          refine ⟨⟨h5.1, trivial⟩, by omega, ?_⟩
          split at h3 <;> rename_i hgr <;> simp only [hgr, if_true, if_false, Bool.false_eq_true] at hD <;> omega
        rw [this]
        refine ⟨left - rxP x, ?_, fun _ => rfl⟩
        rw [h6]
        simp only [Option.bind_some, Option.some.injEq, Prod.mk.injEq, and_true]
        omega
      · have : ((x.kids.l.all mm && true) && (decide ((rxP x : Int) ≤ left) && decide ((rxD x : Int) ≤ deep))) = false := by
          rw [Bool.eq_false_iff] at h5 ⊢
          intro h
          apply h5
          simp only [Bool.and_eq_true, decide_eq_true_eq] at h ⊢
          refine ⟨h.1.1, by omega, ?_⟩
          split at h3 <;> rename_i hgr <;> simp only [hgr, if_true, if_false, Bool.false_eq_true] at hD <;> omega
        rw [this]
        exact ⟨b, by rw [h6]; rfl, by simp⟩
  rw [rxtree_fits.eq_1]
  simp only [hg, Option.bind_eq_bind, Option.bind_some]
  cases hgr : isGr x.kind
  · have h := key deep d2 (by omega) (by rw [hgr]; simp)
    simp only [Bool.false_eq_true, if_false]
    exact h
  · have e : IntKind.i64.wrap (deep - 1) = deep - 1 := wr (by unfold BB at *; omega) (by unfold BB at *; omega)
    have h := key (deep - 1) (by omega) (by omega) (by rw [hgr]; simp)
    simp only [if_true, e]
    exact h
theorem rxMay (x : T.Rx) (hw : Light x) : ∃ c, rxtree_May x = some c ∧ ref13_May x = some c := by
  obtain ⟨m, m1, m2⟩ := fits_ok x hw
  obtain ⟨l', e1, e2⟩ := m2 512 16 (by unfold BB; omega) (by unfold BB; omega) (by unfold BB; omega) (by unfold BB; omega)
  refine ⟨m && (decide ((rxP x : Int) ≤ 512) && decide ((rxD x : Int) ≤ 16)), ?_, ?_⟩
  · unfold rxtree_May
    rw [e1]; rfl
  · unfold ref13_May
    simp only [parts_ok x hw, deep_ok x hw, m1, Option.bind_eq_bind, Option.bind_some]
    cases decide ((rxP x : Int) ≤ 512) <;> cases decide ((rxD x : Int) ≤ 16) <;> cases m <;> rfl

/-! Formats. -/
theorem caseName (w : Int) : ∃ c, casing_Name w = some c ∧ ref17_Name w = some c := by
  unfold casing_Name casing_names ref17_Name
  by_cases h1 : w = 1
  · subst h1; exact ⟨_, rfl, rfl⟩
  by_cases h2 : w = 2
  · subst h2; exact ⟨_, rfl, rfl⟩
  by_cases h3 : w = 3
  · subst h3; exact ⟨_, rfl, rfl⟩
  by_cases h4 : w = 4
  · subst h4; exact ⟨_, rfl, rfl⟩
  by_cases h5 : w = 5
  · subst h5; exact ⟨_, rfl, rfl⟩
  refine ⟨[], ?_, ?_⟩
  · rw [if_pos (by simp; omega)]
  · simp [h1, h2, h3, h4, h5]
theorem fmts_L0 (fs : Sl T.Fmt) (hl : fs.l.length ≤ 1099511627776) : ∀ (r : List T.Fmt) (k : Nat), fs.l.drop k = r →
    ∃ c, fmts_May_L0 (fs, fs, (fs.l.length : Int), (k : Int)) = some (lr c) ∧ ref18_May_L0 (fs, (k : Int)) = some (lr c) := by
  intro r
  induction r with
  | nil =>
    intro k hk
    rw [fmts_May_L0.eq_1, ref18_May_L0.eq_1, if_neg (by simpa using dropN hk), if_neg (by simpa using dropN hk)]
    exact ⟨true, rfl, rfl⟩
  | cons f r ih =>
    intro k hk
    obtain ⟨a1, a2, a3, a4⟩ := dropC hk
    obtain ⟨c, c1, c2⟩ := ih (k + 1) a3
    obtain ⟨nm, n1, n2⟩ := caseName f.cas
    -- is the one ahead a text, too?
    obtain ⟨pv, p1, p2, p3⟩ : ∃ pv : Bool, ((k : Int) = 0 → pv = false) ∧ (¬ (k : Int) = 0 → ∃ y, geti fs.l (IntKind.i64.wrap ((k : Int) - 1)) = some y ∧ (y.kind == 0) = pv) ∧ True := by
      by_cases hk0 : (k : Int) = 0
      · exact ⟨false, fun _ => rfl, fun h => absurd hk0 h, trivial⟩
      · have hk1 : IntKind.i64.wrap ((k : Int) - 1) = ((k - 1 : Nat) : Int) := by rw [wr (by omega) (by omega)]; omega
        have hp := geti_some (l := fs.l) (n := k - 1) (by omega)
        exact ⟨fs.l[k - 1].kind == 0, fun h => absurd h hk0, fun _ => ⟨_, by rw [hk1]; exact hp, rfl⟩, trivial⟩
    rw [fmts_May_L0.eq_1, ref18_May_L0.eq_1]
    simp only [a1, decide_true, if_true, a2, Option.bind_eq_bind, Option.bind_some, wrS (by omega) a1, c1, c2, fmts_may, fmts_blank, n1, n2]
    have m1 : decide (f.n < 0) = !decide (f.n ≥ 0) := by by_cases h : f.n ≥ 0 <;> simp [h] <;> omega
    have m2 : decide (f.n > 9999) = !decide (f.n ≤ 9999) := by by_cases h : f.n ≤ 9999 <;> simp [h] <;> omega
    by_cases h0 : f.kind = 0
    · simp only [h0, beq_self_eq_true, if_true, m1, m2, Bool.true_and, Bool.false_or]
      by_cases hn : f.n = 0
      · by_cases hk0 : (k : Int) = 0
        · have g1 : decide ((k : Int) > 0) = false := by simp; omega
          have g2 : ((k : Int) == 0) = true := by simpa using hk0
          simp only [hn, g1, g2, beq_self_eq_true, Int.reduceLE, decide_true, Bool.not_true, Bool.or_self, Bool.false_eq_true, if_false, if_true, ge_iff_le, Bool.true_and]
          cases f.cas == 0 <;> cases f.els == [] <;> cases f.thn == [] <;> first | exact ⟨false, rfl, rfl⟩ | exact ⟨c, rfl, rfl⟩
        · obtain ⟨y, y1, y2⟩ := p2 hk0
          have g1 : decide ((k : Int) > 0) = true := by simp; omega
          have g2 : ((k : Int) == 0) = false := by simpa using hk0
          have g3 : (y.kind != 0) = !(y.kind == 0) := rfl
          simp only [hn, g1, g2, g3, y1, y2, beq_self_eq_true, Int.reduceLE, decide_true, Bool.not_true, Bool.or_self, Bool.false_eq_true, if_false, if_true, ge_iff_le, Bool.true_and, Option.bind_some]
          cases f.cas == 0 <;> cases f.els == [] <;> cases f.thn == [] <;> cases pv <;> first | exact ⟨false, rfl, rfl⟩ | exact ⟨c, rfl, rfl⟩
      · have hn' : (f.n == 0) = false := by simpa using hn
        refine ⟨false, ?_, ?_⟩
        · simp [hn', lr]
        · simp [hn', lr]
    have n0 : (f.kind == 0) = false := by simpa using h0
    simp only [n0, Bool.false_eq_true, if_false, Bool.false_and, m1, m2]
    by_cases h1 : f.kind = 1
    · simp only [h1, beq_self_eq_true, if_true, Bool.true_or]
      cases decide (f.n ≥ 0) <;> cases decide (f.n ≤ 9999) <;> cases f.cas == 0 <;> cases f.thn == [] <;> cases f.els == [] <;> first | exact ⟨false, rfl, rfl⟩ | exact ⟨c, rfl, rfl⟩
    by_cases h2 : f.kind = 2
    · simp only [h2, Int.reduceBEq, Bool.false_eq_true, if_false, if_true, Bool.true_or, Bool.or_true, Bool.or_self]
      cases decide (f.n ≥ 0) <;> cases decide (f.n ≤ 9999) <;> cases nm == [] <;> cases f.thn == [] <;> cases f.els == [] <;> first | exact ⟨false, rfl, rfl⟩ | exact ⟨c, rfl, rfl⟩
    by_cases h3 : f.kind = 3
    · simp only [h3, Int.reduceBEq, Bool.false_eq_true, if_false, if_true, Bool.true_or, Bool.or_true, Bool.or_self]
      cases decide (f.n ≥ 0) <;> cases decide (f.n ≤ 9999) <;> cases f.cas == 0 <;> cases f.thn == [] <;> cases f.els == [] <;> first | exact ⟨false, rfl, rfl⟩ | exact ⟨c, rfl, rfl⟩
    by_cases h4 : f.kind = 4
    · simp only [h4, Int.reduceBEq, Bool.false_eq_true, if_false, if_true, Bool.true_or, Bool.or_true, Bool.or_self]
      cases decide (f.n ≥ 0) <;> cases decide (f.n ≤ 9999) <;> cases f.cas == 0 <;> cases f.thn == [] <;> cases f.els == [] <;> first | exact ⟨false, rfl, rfl⟩ | exact ⟨c, rfl, rfl⟩
    by_cases h5 : f.kind = 5
    · simp only [h5, Int.reduceBEq, Bool.false_eq_true, if_false, if_true, Bool.true_or, Bool.or_true, Bool.or_self, Bool.true_and]
      cases decide (f.n ≥ 0) <;> cases decide (f.n ≤ 9999) <;> cases f.cas == 0 <;> cases f.thn == [] <;> cases f.els == [] <;> first | exact ⟨false, rfl, rfl⟩ | exact ⟨c, rfl, rfl⟩
    have n1 : (f.kind == 1) = false := by simpa using h1
    have n2 : (f.kind == 2) = false := by simpa using h2
    have n3 : (f.kind == 3) = false := by simpa using h3
    have n4 : (f.kind == 4) = false := by simpa using h4
    have n5 : (f.kind == 5) = false := by simpa using h5
    simp only [n1, n2, n3, n4, n5, Bool.false_eq_true, if_false, Bool.false_and, Bool.or_self]
    cases decide (f.n ≥ 0) <;> cases decide (f.n ≤ 9999) <;> exact ⟨false, rfl, rfl⟩
theorem fmtsMay (fs : Sl T.Fmt) (hl : fs.l.length ≤ 1099511627776) : ∃ c, fmts_May fs = some c ∧ ref18_May fs = some c := by
  obtain ⟨c, c1, c2⟩ := fmts_L0 fs hl fs.l 0 rfl
  rw [show ((0 : Nat) : Int) = 0 from rfl] at c1 c2
  refine ⟨c, ?_, ?_⟩
  · unfold fmts_May; rw [c1]; cases c <;> rfl
  · unfold ref18_May; rw [c2]; cases c <;> rfl
theorem formMay (f : T.Form) (hw : formW f ≤ 1099511627776) : ∃ c, xform_May f = some c ∧ ref19_May f = some c := by
  obtain ⟨a, a1, a2⟩ := rxMay f.rx (by unfold Light; unfold formW at hw; omega)
  obtain ⟨b, b1, b2⟩ := fmtsMay f.fmts (by have := formW_fmts f; omega)
  refine ⟨a && b, ?_, ?_⟩
  · unfold xform_May
    simp only [a1, b1, Option.bind_eq_bind, Option.bind_some]
    cases a <;> rfl
  · unfold ref19_May
    simp only [a2, b2, Option.bind_eq_bind, Option.bind_some]
    cases a <;> rfl
end Go.Proofs.YtmlmgbnhaenabaaGreat
