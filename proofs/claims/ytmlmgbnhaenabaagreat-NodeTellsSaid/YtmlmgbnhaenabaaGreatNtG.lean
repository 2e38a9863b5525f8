/-
  Trees that may be, how deep they are, of how many parts.
-/
import Derived.Test.YtmlmgbnhaenabaaGreatNtF
set_option linter.unusedSimpArgs false
set_option linter.unusedVariables false
namespace Go.Proofs.YtmlmgbnhaenabaaGreat
open Go Go.Gm

mutual
def snD : T.Snip → Nat
  | ⟨_, _, _, h, _, _, _, kids⟩ => (if h then 1 else 0) + snDS kids
def snDS : Sl T.Snip → Nat
  | ⟨_, l⟩ => snDL l
def snDL : List T.Snip → Nat
  | [] => 0
  | x :: r => max (snD x) (snDL r)
end
theorem snDL_max : ∀ l : List T.Snip, snDL l = maxN (l.map snD)
  | [] => by simp [snDL, maxN]
  | x :: r => by simp [snDL, maxN, snDL_max r]
theorem snD_eq (x : T.Snip) : snD x = (if x.has then 1 else 0) + maxN (x.kids.l.map snD) := by
  cases x with | mk a b c d e f g h => cases h; simp [snD, snDS, snDL_max]
mutual
def snP : T.Snip → Nat
  | ⟨_, _, _, _, _, _, _, kids⟩ => 1 + snPS kids
def snPS : Sl T.Snip → Nat
  | ⟨_, l⟩ => snPL l
def snPL : List T.Snip → Nat
  | [] => 0
  | x :: r => snP x + snPL r
end
theorem snPL_sum : ∀ l : List T.Snip, snPL l = sumN (l.map snP)
  | [] => by simp [snPL, sumN]
  | x :: r => by simp [snPL, sumN, snPL_sum r]
theorem snP_eq (x : T.Snip) : snP x = 1 + sumN (x.kids.l.map snP) := by
  cases x with | mk a b c d e f g h => cases h; simp [snP, snPS, snPL_sum]
theorem snP_le : ∀ x : T.Snip, snP x ≤ snW x := by
  apply sn_ind
  intro x ih
  have := sumN_le ih
  rw [snP_eq, snW_eq]
  omega
theorem snD_le : ∀ x : T.Snip, snD x ≤ snP x := by
  apply sn_ind
  intro x ih
  have := maxN_le_sum ih
  rw [snP_eq, snD_eq]
  split <;> omega

/-- A light list of parts. -/
abbrev LightS (l : Sl T.Snip) : Prop := sumN (l.l.map snW) ≤ 1099511627775
theorem lightS_len {l : Sl T.Snip} (h : LightS l) : l.l.length ≤ 1099511627775 := by have := sumN_len snW_pos l.l; unfold LightS at h; omega
theorem lightS_mem {l : Sl T.Snip} (h : LightS l) {x : T.Snip} (hx : x ∈ l.l) : snW x ≤ 1099511627775 := by have := sumN_map_mem (f := snW) hx; unfold LightS at h; omega
theorem lightS_kids {l : Sl T.Snip} (h : LightS l) {x : T.Snip} (hx : x ∈ l.l) : LightS x.kids := by have := lightS_mem h hx; have := snW_eq x; unfold LightS; omega
/-- What holds of a list if it holds of all parts' kids holds of all lists. -/
theorem snS_ind {P : Sl T.Snip → Prop} (h : ∀ l, LightS l → (∀ x ∈ l.l, P x.kids) → P l) : ∀ l, LightS l → P l := by
  intro l hl
  refine h l hl fun x hx => ?_
  have : ∀ x : T.Snip, LightS x.kids → P x.kids := by
    apply sn_ind (P := fun x => LightS x.kids → P x.kids)
    intro x ih hx
    exact h _ hx fun y hy => ih y hy (lightS_kids hx hy)
  exact this x (lightS_kids hl hx)

theorem deeps_ok : ∀ l, LightS l → snode_Deep l = some (maxN (l.l.map snD) : Int) ∧ ref20_Deep l = some (maxN (l.l.map snD) : Int) := by
  apply snS_ind
  intro l hl ih0
  have hlen := lightS_len hl
  have hle : ∀ x ∈ l.l, snD x ≤ 1099511627775 := fun x hx => by have := lightS_mem hl hx; have := snD_le x; have := snP_le x; omega
  have k1 : ∀ (r : List T.Snip) (k n : Nat), l.l.drop k = r → snode_Deep_L0 ((n : Int), l, (l.l.length : Int), (k : Int)) = some ((max n (maxN (r.map snD)) : Nat) : Int) := by
    intro r
    induction r with
    | nil =>
      intro k n hk
      rw [snode_Deep_L0.eq_1, if_neg (by simpa using dropN hk)]
      simp [maxN]
    | cons x r ih =>
      intro k n hk
      obtain ⟨a1, a2, a3, a4⟩ := dropC hk
      have hx := hle x a4
      have hd := snD_eq x
      have e : IntKind.i64.wrap ((maxN (x.kids.l.map snD) : Int) + 1) = (maxN (x.kids.l.map snD) : Int) + 1 := wr (by omega) (by omega)
      have e1 : (if ((maxN (x.kids.l.map snD) : Int) + 1) > (n : Int) then (maxN (x.kids.l.map snD) : Int) + 1 else (n : Int)) = ((max n (maxN (x.kids.l.map snD) + 1) : Nat) : Int) := by split <;> omega
      have e2 : (if (maxN (x.kids.l.map snD) : Int) > (n : Int) then (maxN (x.kids.l.map snD) : Int) else (n : Int)) = ((max n (maxN (x.kids.l.map snD)) : Nat) : Int) := by split <;> omega
      rw [snode_Deep_L0.eq_1]
      simp only [a1, decide_true, if_true, a2, Option.bind_eq_bind, Option.bind_some, (ih0 x a4).1, wrS (by omega) a1, e, e1, e2, ih (k + 1) _ a3, List.map_cons, maxN]
      cases hh : x.has <;> simp only [hh, if_true, if_false, Bool.false_eq_true] at hd ⊢ <;> simp only [Option.some.injEq, Int.natCast_inj] <;> omega
  have k2 : ∀ (r : List T.Snip) (k n : Nat), l.l.drop k = r → ref20_Deep_L0 (l, (n : Int), (k : Int)) = some ((max n (maxN (r.map snD)) : Nat) : Int) := by
    intro r
    induction r with
    | nil =>
      intro k n hk
      rw [ref20_Deep_L0.eq_1, if_neg (by simpa using dropN hk)]
      simp [maxN]
    | cons x r ih =>
      intro k n hk
      obtain ⟨a1, a2, a3, a4⟩ := dropC hk
      have hx := hle x a4
      have hd := snD_eq x
      have e : IntKind.i64.wrap ((maxN (x.kids.l.map snD) : Int) + 1) = (maxN (x.kids.l.map snD) : Int) + 1 := wr (by omega) (by omega)
      have e1 : (if ((maxN (x.kids.l.map snD) : Int) + 1) > (n : Int) then (maxN (x.kids.l.map snD) : Int) + 1 else (n : Int)) = ((max n (maxN (x.kids.l.map snD) + 1) : Nat) : Int) := by split <;> omega
      have e2 : (if (maxN (x.kids.l.map snD) : Int) > (n : Int) then (maxN (x.kids.l.map snD) : Int) else (n : Int)) = ((max n (maxN (x.kids.l.map snD)) : Nat) : Int) := by split <;> omega
      rw [ref20_Deep_L0.eq_1]
      simp only [a1, decide_true, if_true, a2, Option.bind_eq_bind, Option.bind_some, (ih0 x a4).2, wrS (by omega) a1, e, e1, e2, ih (k + 1) _ a3, List.map_cons, maxN]
      cases hh : x.has <;> simp only [hh, if_true, if_false, Bool.false_eq_true] at hd ⊢ <;> simp only [Option.some.injEq, Int.natCast_inj] <;> omega
  constructor
  · rw [snode_Deep.eq_1]
    have h := k1 l.l 0 0 rfl
    rw [show ((0 : Int), l, (l.l.length : Int), (0 : Int)) = (((0 : Nat) : Int), l, (l.l.length : Int), ((0 : Nat) : Int)) from rfl, h]
    simp
  · rw [ref20_Deep.eq_1]
    have h := k2 l.l 0 0 rfl
    rw [show (l, (0 : Int), (0 : Int)) = (l, ((0 : Nat) : Int), ((0 : Nat) : Int)) from rfl, h]
    simp
theorem partss_ok : ∀ l, LightS l → snode_Parts l = some (sumN (l.l.map snP) : Int) ∧ ref20_Parts l = some (sumN (l.l.map snP) : Int) := by
  apply snS_ind
  intro l hl ih0
  have hlen := lightS_len hl
  have htot : sumN (l.l.map snP) ≤ 1099511627775 := by have := sumN_le (fun x (_ : x ∈ l.l) => snP_le x); unfold LightS at hl; omega
  have k1 : ∀ (r : List T.Snip) (k n : Nat), l.l.drop k = r → n + sumN (r.map snP) ≤ r.length + 1099511627775 * 2 → snode_Parts_L0 ((n : Int), l, (l.l.length : Int), (k : Int)) = some (((n + sumN (r.map snP) - r.length) : Nat) : Int) := by
    intro r
    induction r with
    | nil =>
      intro k n hk _
      rw [snode_Parts_L0.eq_1, if_neg (by simpa using dropN hk)]
      simp [sumN]
    | cons x r ih =>
      intro k n hk hn
      obtain ⟨a1, a2, a3, a4⟩ := dropC hk
      have hd := snP_eq x
      have hrl : r.length ≤ sumN (r.map snP) := sumN_len (fun y => by rw [snP_eq]; omega) r
      simp only [List.map_cons, sumN, List.length_cons] at hn ⊢
      have hrk : r.length ≤ 1099511627775 := by rw [← a3]; simp; omega
      have e : IntKind.i64.wrap ((n : Int) + (sumN (x.kids.l.map snP) : Int)) = ((n + sumN (x.kids.l.map snP) : Nat) : Int) := by rw [wr (by omega) (by omega)]; omega
      rw [snode_Parts_L0.eq_1]
      simp only [a1, decide_true, if_true, a2, Option.bind_eq_bind, Option.bind_some, (ih0 x a4).1, wrS (by omega) a1, e]
      rw [ih (k + 1) _ a3 (by omega)]
      simp only [Option.some.injEq, Int.natCast_inj]
      omega
  have k2 : ∀ (r : List T.Snip) (k n : Nat), l.l.drop k = r → n + sumN (r.map snP) ≤ 1099511627775 → ref20_Parts_L0 (l, (n : Int), (k : Int)) = some ((n + sumN (r.map snP) : Nat) : Int) := by
    intro r
    induction r with
    | nil =>
      intro k n hk _
      rw [ref20_Parts_L0.eq_1, if_neg (by simpa using dropN hk)]
      simp [sumN]
    | cons x r ih =>
      intro k n hk hn
      obtain ⟨a1, a2, a3, a4⟩ := dropC hk
      have hd := snP_eq x
      simp only [List.map_cons, sumN] at hn ⊢
      have e0 : IntKind.i64.wrap ((n : Int) + 1) = ((n + 1 : Nat) : Int) := by rw [wr (by omega) (by omega)]; omega
      have e : IntKind.i64.wrap (((n + 1 : Nat) : Int) + (sumN (x.kids.l.map snP) : Int)) = ((n + snP x : Nat) : Int) := by rw [wr (by omega) (by omega)]; omega
      rw [ref20_Parts_L0.eq_1]
      simp only [a1, decide_true, if_true, a2, Option.bind_eq_bind, Option.bind_some, (ih0 x a4).2, wrS (by omega) a1, e0, e]
      rw [ih (k + 1) _ a3 (by omega)]
      simp only [Option.some.injEq, Int.natCast_inj]
      omega
  constructor
  · rw [snode_Parts.eq_1]
    have h := k1 l.l 0 l.l.length rfl (by omega)
    rw [show ((l.l.length : Int), l, (l.l.length : Int), (0 : Int)) = (((l.l.length : Nat) : Int), l, (l.l.length : Int), ((0 : Nat) : Int)) from rfl, h]
    simp
  · rw [ref20_Parts.eq_1]
    have h := k2 l.l 0 0 rfl (by omega)
    rw [show (l, (0 : Int), (0 : Int)) = (l, ((0 : Nat) : Int), ((0 : Nat) : Int)) from rfl, h]
    simp

/-! May they be? -/
theorem may_nil (b : Bool) : ref20_may (⟨b, []⟩ : Sl T.Snip) = some true := by
  rw [ref20_may.eq_1, ref20_may_L0.eq_1]; rfl
theorem part_ok (l : Sl T.Snip) (k : Nat) (x : T.Snip) (hk : (k : Int) < (l.l.length : Int)) (hx : geti l.l (k : Int) = some x) (hw : snW x ≤ 1099511627775) (hwr : IntKind.i64.wrap ((k : Int) + 1) = ((k + 1 : Nat) : Int))
    (mk : Bool) (hmk : ref20_may x.kids = some mk) (pv : Bool) (p1 : (k : Int) = 0 → pv = false) (p2 : ¬ (k : Int) = 0 → ∃ y, geti l.l (IntKind.i64.wrap ((k : Int) - 1)) = some y ∧ (y.kind == 0) = pv) :
    ∃ f, snode_fields x = some f ∧ (f = true → x.has = false → x.kids.l = []) ∧ (f = true → x.kind = 0 → x.has = false) ∧
      ref20_may_L0 (l, (k : Int)) = if ((f && (!x.has || mk)) && !(x.kind == 0 && pv)) = true then ref20_may_L0 (l, ((k + 1 : Nat) : Int)) else some (.inl false) := by
  have hf := snW_form x
  have ht := snW_text x
  obtain ⟨sf, s1, s2⟩ := formSame x.form (T.Form.mk (T.Rx.mk (0 : Int) ([] : Bytes) false (⟨true, ([] : List T.Row)⟩ : (Sl T.Row)) (0 : Int) (0 : Int) false (⟨true, ([] : List T.Rx)⟩ : (Sl T.Rx))) (⟨true, ([] : List T.Fmt)⟩ : (Sl T.Fmt)) false false) (by omega)
  obtain ⟨fm, f1, f2⟩ := formMay x.form (by omega)
  obtain ⟨nm, n1, n2⟩ := nameSame x.text (by omega)
  have ke : ((x.kids.l.length : Int) == 0) = true → mk = true ∧ x.kids.l = [] := by
    intro h
    have h1 : x.kids.l = [] := by simpa using h
    refine ⟨?_, h1⟩
    have h2 : x.kids = ⟨x.kids.nil, []⟩ := by rw [← h1]
    rw [h2, may_nil] at hmk
    simpa using hmk.symm
  have g1 : decide ((x.kids.l.length : Int) > 0) = !((x.kids.l.length : Int) == 0) := by
    by_cases h : (x.kids.l.length : Int) = 0
    · simp [h]
    · have : (x.kids.l.length : Int) > 0 := by omega
      rw [decide_eq_true this, beq_false_of_ne (by omega)]; rfl
  have g2 : decide ((x.opts.l.length : Int) > 0) = !((x.opts.l.length : Int) == 0) := by
    by_cases h : (x.opts.l.length : Int) = 0
    · simp [h]
    · have : (x.opts.l.length : Int) > 0 := by omega
      rw [decide_eq_true this, beq_false_of_ne (by omega)]; rfl
  have hno : snode_nothing x = some (!x.has && !x.turned && ((x.kids.l.length : Int) == 0) && sf) := by
    unfold snode_nothing
    simp only [s1, Option.bind_eq_bind, Option.bind_some]
    cases x.has <;> cases x.turned <;> cases ((x.kids.l.length : Int) == 0) <;> rfl
  have hbe : snode_besides x = some (if x.has then !x.turned && sf else if x.turned then ((x.kids.l.length : Int) == 0) && fm else ((x.kids.l.length : Int) == 0) && sf) := by
    unfold snode_besides
    simp only [s1, f1, hno, Option.bind_eq_bind, Option.bind_some]
    cases x.has <;> cases x.turned <;> cases ((x.kids.l.length : Int) == 0) <;> rfl
  have hst : ref20_stop x = some (((x.opts.l.length : Int) == 0) && (if x.has then !x.turned && sf && mk else ((x.kids.l.length : Int) == 0) && (if x.turned then fm else sf && mk))) := by
    rw [ref20_stop.eq_1]
    simp only [g1, g2, s2, f2, hmk, Option.bind_eq_bind, Option.bind_some]
    cases ((x.opts.l.length : Int) == 0) <;> cases x.has <;> cases x.turned <;> cases ((x.kids.l.length : Int) == 0) <;> cases sf <;> rfl
  generalize hke : ((x.kids.l.length : Int) == 0) = kE at *
  generalize hoe : ((x.opts.l.length : Int) == 0) = oE at *
  rw [ref20_may_L0.eq_1]
  unfold snode_fields
  simp only [hk, decide_true, if_true, hx, Option.bind_eq_bind, Option.bind_some, hwr, s2, hno, hbe, hst, n1, n2, hke, hoe, g2]
  by_cases k0 : x.kind = 0
  · simp only [k0, beq_self_eq_true, if_true, Bool.true_and]
    refine ⟨(!(x.text == []) && ((x.n == 0) && oE)) && (!x.has && !x.turned && kE && sf), ?_, ?_, ?_, ?_⟩
    · cases decide (x.n ≥ 0) <;> cases (!(x.text == []) && ((x.n == 0) && oE)) <;> rfl
    · intro h _
      simp only [Bool.and_eq_true] at h
      exact (ke h.2.1.2).2
    · intro h _
      simp only [Bool.and_eq_true] at h
      simpa using h.2.1.1.1
    · by_cases hk0 : (k : Int) = 0
      · have := p1 hk0
        subst this
        have g3 : ((k : Int) == 0) = true := by simpa using hk0
        simp only [g3, if_true]
        cases x.has <;> cases x.turned <;> cases sf <;> cases kE <;> cases oE <;> cases (x.n == 0) <;> cases (x.text == []) <;> cases decide (x.n ≥ 0) <;> rfl
      · obtain ⟨y, y1, y2⟩ := p2 hk0
        have g3 : ((k : Int) == 0) = false := by simpa using hk0
        have g4 : (y.kind != 0) = !(y.kind == 0) := rfl
        simp only [g3, y1, g4, y2, Bool.false_eq_true, if_false, Option.bind_some]
        cases x.has <;> cases x.turned <;> cases sf <;> cases kE <;> cases oE <;> cases (x.n == 0) <;> cases (x.text == []) <;> cases decide (x.n ≥ 0) <;> cases pv <;> rfl
  have c0 : (x.kind == 0) = false := by simpa using k0
  simp only [c0, Bool.false_eq_true, if_false, Bool.false_and, Bool.not_false, Bool.and_true]
  by_cases k1 : x.kind = 1
  · simp only [k1, Int.reduceBEq, Bool.false_eq_true, if_false, beq_self_eq_true, if_true, Bool.true_or]
    refine ⟨decide (x.n ≥ 0) && ((x.text == []) && (decide (x.n ≤ 9999) && oE)) && (if x.has then !x.turned && sf else if x.turned then kE && fm else kE && sf), ?_, ?_, ?_, ?_⟩
    · cases decide (x.n ≥ 0) <;> cases (x.text == []) <;> cases decide (x.n ≤ 9999) <;> cases oE <;> rfl
    · intro h hh
      simp only [hh, Bool.and_eq_true, Bool.false_eq_true, if_false] at h
      have h' := h.2
      split at h' <;> simp only [Bool.and_eq_true] at h' <;> exact (ke h'.1).2
    · intro _ h; omega
    · cases hkE : kE
      · cases x.has <;> cases x.turned <;> cases sf <;> cases mk <;> cases fm <;> cases oE <;> cases (x.text == []) <;> cases decide (x.n ≥ 0) <;> cases decide (x.n ≤ 9999) <;> rfl
      · have := (ke hkE).1
        subst this
        cases x.has <;> cases x.turned <;> cases sf <;> cases fm <;> cases oE <;> cases (x.text == []) <;> cases decide (x.n ≥ 0) <;> cases decide (x.n ≤ 9999) <;> rfl
  have c1 : (x.kind == 1) = false := by simpa using k1
  simp only [c1, Bool.false_eq_true, if_false, Bool.false_or]
  by_cases k2 : x.kind = 2
  · simp only [k2, Int.reduceBEq, Bool.false_eq_true, if_false, beq_self_eq_true, if_true, Bool.true_or, Bool.or_true]
    refine ⟨decide (x.n ≥ 0) && ((x.text == []) && (decide (x.n ≤ 9999) && !oE)) && (!x.has && !x.turned && kE && sf), ?_, ?_, ?_, ?_⟩
    · cases decide (x.n ≥ 0) <;> cases (x.text == []) <;> cases decide (x.n ≤ 9999) <;> cases oE <;> rfl
    · intro h _
      simp only [Bool.and_eq_true] at h
      exact (ke h.2.1.2).2
    · intro _ h; omega
    · cases x.has <;> cases x.turned <;> cases sf <;> cases kE <;> cases oE <;> cases (x.text == []) <;> cases decide (x.n ≥ 0) <;> cases decide (x.n ≤ 9999) <;> rfl
  have c2 : (x.kind == 2) = false := by simpa using k2
  simp only [c2, Bool.false_eq_true, if_false, Bool.or_self]
  by_cases k3 : x.kind = 3
  · simp only [k3, beq_self_eq_true, if_true, Bool.true_and]
    refine ⟨(nm && ((x.n == 0) && oE)) && (if x.has then !x.turned && sf else if x.turned then kE && fm else kE && sf), ?_, ?_, ?_, ?_⟩
    · cases decide (x.n ≥ 0) <;> cases nm <;> cases (x.n == 0) <;> cases oE <;> rfl
    · intro h hh
      simp only [hh, Bool.and_eq_true, Bool.false_eq_true, if_false] at h
      have h' := h.2
      split at h' <;> simp only [Bool.and_eq_true] at h' <;> exact (ke h'.1).2
    · intro _ h; omega
    · cases hkE : kE
      · cases x.has <;> cases x.turned <;> cases sf <;> cases mk <;> cases fm <;> cases oE <;> cases nm <;> cases (x.n == 0) <;> cases decide (x.n ≥ 0) <;> rfl
      · have := (ke hkE).1
        subst this
        cases x.has <;> cases x.turned <;> cases sf <;> cases fm <;> cases oE <;> cases nm <;> cases (x.n == 0) <;> cases decide (x.n ≥ 0) <;> rfl
  have c3 : (x.kind == 3) = false := by simpa using k3
  simp only [c3, Bool.false_eq_true, if_false, Bool.false_and]
  refine ⟨false, by cases decide (x.n ≥ 0) <;> rfl, by simp, by simp, ?_⟩
  cases x.has <;> cases x.turned <;> cases sf <;> cases decide (x.n ≥ 0) <;> rfl
end Go.Proofs.YtmlmgbnhaenabaaGreat
