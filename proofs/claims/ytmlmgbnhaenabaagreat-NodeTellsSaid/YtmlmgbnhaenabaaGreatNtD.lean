/-
  Characters, rows, names: the program's words are the document's.
-/
import Derived.Test.YtmlmgbnhaenabaaGreatNtC
set_option linter.unusedSimpArgs false
set_option linter.unusedVariables false
namespace Go.Proofs.YtmlmgbnhaenabaaGreat
open Go Go.Gm

def leadB (b : UInt8) : Bool := decide ((b.toNat : Int) < 128) || decide ((b.toNat : Int) > 191)
theorem lead_ok (b : UInt8) : ref2_Lead b = some (leadB b) := by
  unfold ref2_Lead leadB
  by_cases h : (b.toNat : Int) < 128 <;> simp [h]
theorem inside_ok (b : UInt8) : char_inside b = some (!leadB b) := by
  unfold char_inside leadB
  by_cases h : (b.toNat : Int) < 128
  · have : ¬ (b.toNat : Int) ≥ 128 := by omega
    simp [h, this]
  · have h1 : (b.toNat : Int) ≥ 128 := by omega
    by_cases h2 : (b.toNat : Int) ≤ 191
    · have : ¬ (b.toNat : Int) > 191 := by omega
      simp [h, h1, h2, this]
    · have : (b.toNat : Int) > 191 := by omega
      simp [h, h1, h2, this]
theorem end_L0 (s : Bytes) (hl : s.length ≤ 1099511627776) : ∀ (r : Bytes) (k : Nat), s.drop k = r → k ≤ s.length →
    ∃ e : Nat, char_end_L0 (s, (k : Int)) = some (e : Int) ∧ (e = s.length ↔ r.all (fun b => !leadB b) = true) ∧ e ≤ s.length := by
  intro r
  induction r with
  | nil =>
    intro k hk hkl
    have := drop_none hk
    have hn := dropN hk
    rw [char_end_L0.eq_1]
    exact ⟨k, by simp [hn], by simp; omega, hkl⟩
  | cons b r ih =>
    intro k hk hkl
    obtain ⟨a1, a2, a3, _⟩ := dropC hk
    rw [char_end_L0.eq_1]
    simp only [a1, decide_true, if_true, a2, Option.bind_eq_bind, Option.bind_some, inside_ok, wrS (by omega) a1]
    cases hb : leadB b
    · obtain ⟨e, e1, e2, e3⟩ := ih (k + 1) a3 (by omega)
      refine ⟨e, by simpa using e1, ?_, e3⟩
      rw [e2]
      simp [hb]
    · exact ⟨k, by simp, by simp [hb]; omega, hkl⟩
theorem split_L0 (s : Bytes) (hl : s.length ≤ 1099511627776) : ∀ (r : Bytes) (k f : Nat) (l : List Bytes), s.drop k = r → k ≤ s.length → f ≤ k → l.length ≤ k →
    ∃ out, ref11_Split_L0 (s, (f : Int), (k : Int), l) = some out ∧ out.length = l.length + r.countP leadB + 1 := by
  have room : ∀ n, n ≤ 1099511627777 → roomOK n 16 = true := by
    intro n hn
    simp only [roomOK, Bool.and_eq_true, decide_eq_true_eq]
    omega
  intro r
  induction r with
  | nil =>
    intro k f l hk hkl hf hll
    have h1 := drop_none hk
    obtain rfl : k = s.length := by omega
    have hs : sub2 s (f : Int) (s.length : Int) = some (s.drop f) := by
      unfold sub2
      rw [if_pos (by simp; omega)]
      simp
    rw [ref11_Split_L0.eq_1]
    simp only [Int.le_refl, decide_true, if_true, beq_self_eq_true, hs, Option.bind_eq_bind, Option.bind_some, room _ (show l.length + 1 ≤ _ by omega)]
    rw [ref11_Split_L0.eq_1, if_neg (by rw [wr (by omega) (by omega)]; simp; omega)]
    exact ⟨_, rfl, by simp⟩
  | cons b r ih =>
    intro k f l hk hkl hf hll
    obtain ⟨a1, a2, a3, _⟩ := dropC hk
    have h1 : ((k : Int) ≤ (s.length : Int)) := by omega
    have h2 : ((k : Int) == (s.length : Int)) = false := by simp; omega
    have hs : sub2 s (f : Int) (k : Int) = some ((s.take k).drop f) := by
      unfold sub2
      rw [if_pos (by simp; omega)]
      simp
    rw [ref11_Split_L0.eq_1]
    simp only [h1, decide_true, if_true, h2, Bool.false_eq_true, if_false, a2, Option.bind_eq_bind, Option.bind_some, lead_ok, wrS (by omega) a1]
    cases hb : leadB b
    · obtain ⟨out, o1, o2⟩ := ih (k + 1) f l a3 (by omega) (by omega) (by omega)
      exact ⟨out, by simpa using o1, by rw [o2]; simp [List.countP_cons, hb]⟩
    · obtain ⟨out, o1, o2⟩ := ih (k + 1) k (l ++ [(s.take k).drop f]) a3 (by omega) (by omega) (by simp; omega)
      refine ⟨out, ?_, by rw [o2]; simp [List.countP_cons, hb]; omega⟩
      simp only [if_true, hs, Option.bind_some, room _ (show l.length + 1 ≤ _ by omega), o1]
def properB : Bytes → Bool
  | [] => false
  | b :: r => leadB b && r.all (fun b => !leadB b)
theorem proper1 (c : Bytes) (hl : c.length ≤ 1099511627776) : char_Proper c = some (properB c) := by
  unfold char_Proper char_end
  cases c with
  | nil => rfl
  | cons b r =>
    have h0 : geti (b :: r) (0 : Int) = some b := rfl
    obtain ⟨e, e1, e2, e3⟩ := end_L0 (b :: r) hl r 1 rfl (by simp)
    rw [if_pos (by simp)]
    simp only [h0, Option.bind_eq_bind, Option.bind_some, inside_ok, wr (show -(2 ^ 62) ≤ (0 : Int) + 1 by omega) (show (0 : Int) + 1 ≤ 2 ^ 62 by omega)]
    rw [show ((0 : Int) + 1) = ((1 : Nat) : Int) from rfl, e1]
    cases hb : leadB b
    · simp [properB, hb]
    · simp only [Bool.not_true, Bool.not_false, if_true, Option.bind_some, properB, hb, Bool.true_and, Option.some.injEq]
      rw [Bool.eq_iff_iff, beq_iff_eq, ← e2]
      omega
theorem proper2 (c : Bytes) (hl : c.length ≤ 1099511627776) : ref11_Proper c = some (properB c) := by
  unfold ref11_Proper ref11_Split
  cases c with
  | nil => rfl
  | cons b r =>
    have h0 : geti (b :: r) (0 : Int) = some b := rfl
    obtain ⟨out, o1, o2⟩ := split_L0 (b :: r) hl r 1 0 [] rfl (by simp) (by omega) (by simp)
    rw [if_pos (by simp)]
    simp only [h0, Option.bind_eq_bind, Option.bind_some, lead_ok]
    rw [show ((0 : Int), (1 : Int), ([] : List Bytes)) = (((0 : Nat) : Int), ((1 : Nat) : Int), ([] : List Bytes)) from rfl, o1]
    cases hb : leadB b
    · simp [properB, hb]
    · simp only [if_true, Option.bind_some, properB, hb, Bool.true_and, Option.some.injEq]
      rw [Bool.eq_iff_iff, beq_iff_eq, List.all_eq_true]
      have : out.length = 1 ↔ r.countP leadB = 0 := by rw [o2]; simp
      rw [List.countP_eq_zero] at this
      constructor
      · intro h
        have h' := this.1 (by omega)
        intro x hx
        have := h' x hx
        simpa using this
      · intro h
        have h' := this.2 (fun x hx => by have := h x hx; simpa using this)
        omega
theorem rows_may (rows : Sl T.Row) (hw : sumN (rows.l.map rowW) ≤ 1099511627776) : ∀ (r : List T.Row) (k : Nat), rows.l.drop k = r →
    ∃ c, rxset_May_L0 (rows, rows, (rows.l.length : Int), (k : Int)) = some (lr c) ∧ ref12_May_L0 (rows, (k : Int)) = some (lr c) := by
  have hll : rows.l.length ≤ 1099511627776 := by have := sumN_len rowW_pos rows.l; omega
  intro r
  induction r with
  | nil =>
    intro k hk
    have hn := dropN hk
    rw [rxset_May_L0.eq_1, ref12_May_L0.eq_1]
    exact ⟨true, by simp [hn, lr], by simp [hn, lr]⟩
  | cons x r ih =>
    intro k hk
    obtain ⟨a1, a2, a3, a4⟩ := dropC hk
    obtain ⟨c, c1, c2⟩ := ih (k + 1) a3
    have hx : rowW x ≤ 1099511627776 := by have := sumN_map_mem (f := rowW) a4; omega
    have p1 := proper1 x.frm (by unfold rowW at hx; omega)
    have p2 := proper1 x.to (by unfold rowW at hx; omega)
    have q1 := proper2 x.frm (by unfold rowW at hx; omega)
    have q2 := proper2 x.to (by unfold rowW at hx; omega)
    rw [rxset_May_L0.eq_1, ref12_May_L0.eq_1]
    simp only [a1, decide_true, if_true, a2, Option.bind_eq_bind, Option.bind_some, wrS (by omega) a1, rxset_row, p1, p2, q1, q2]
    cases properB x.frm
    · exact ⟨false, by simp [lr], by simp [lr]⟩
    · cases properB x.to
      · exact ⟨false, by simp [lr], by simp [lr]⟩
      · cases (bytesLt x.frm x.to || x.frm == x.to)
        · exact ⟨false, by simp [lr], by simp [lr]⟩
        · by_cases hk0 : (k : Int) > 0
          · have hk1 : IntKind.i64.wrap ((k : Int) - 1) = ((k - 1 : Nat) : Int) := by rw [wr (by omega) (by omega)]; omega
            have hp := geti_some (l := rows.l) (n := k - 1) (by omega)
            simp only [hk0, decide_true, if_true, Bool.not_true, Bool.or_self, Bool.false_eq_true, if_false, Option.bind_some, hk1, hp]
            cases (bytesLt x.frm rows.l[k - 1].to || x.frm == rows.l[k - 1].to)
            · exact ⟨c, by simpa using c1, by simpa using c2⟩
            · exact ⟨false, by simp [lr], by simp [lr]⟩
          · have hk1 : ¬ 0 < k := by omega
            exact ⟨c, by simpa [hk1] using c1, by simpa [hk1] using c2⟩
theorem rowsMay (rows : Sl T.Row) (hw : sumN (rows.l.map rowW) ≤ 1099511627776) : ∃ c, rxset_May rows = some c ∧ ref12_May rows = some c := by
  obtain ⟨c, c1, c2⟩ := rows_may rows hw rows.l 0 rfl
  rw [show ((0 : Nat) : Int) = 0 from rfl] at c1 c2
  refine ⟨c, ?_, ?_⟩
  · unfold rxset_May; rw [c1]; cases c <;> rfl
  · unfold ref12_May; rw [c2]; cases c <;> rfl

/-! Names. -/
theorem nameByte_ok (b : UInt8) : ∃ c, snode_NameByte b = some c ∧ (c = true ↔ (97 ≤ b.toNat ∧ b.toNat ≤ 122) ∨ (65 ≤ b.toNat ∧ b.toNat ≤ 90) ∨ (48 ≤ b.toNat ∧ b.toNat ≤ 57) ∨ b.toNat = 95) := by
  unfold snode_NameByte
  split
  · rename_i h
    refine ⟨true, rfl, ?_⟩
    simp only [Bool.or_eq_true, Bool.and_eq_true, decide_eq_true_eq] at h
    simp; omega
  · rename_i h
    refine ⟨_, rfl, ?_⟩
    simp only [Bool.or_eq_true, Bool.and_eq_true, decide_eq_true_eq] at h
    simp; omega
theorem letter_ok (b : UInt8) : ∃ c, ref11_Letter b = some c ∧ (c = true ↔ (97 ≤ b.toNat ∧ b.toNat ≤ 122) ∨ (65 ≤ b.toNat ∧ b.toNat ≤ 90)) := by
  unfold ref11_Letter
  split
  · rename_i h
    refine ⟨true, rfl, ?_⟩
    simp only [Bool.and_eq_true, decide_eq_true_eq] at h
    simp; omega
  · rename_i h
    simp only [Bool.and_eq_true, decide_eq_true_eq] at h
    split
    · rename_i h2
      refine ⟨_, rfl, ?_⟩
      simp only [decide_eq_true_eq] at h2 ⊢
      omega
    · rename_i h2
      refine ⟨_, rfl, ?_⟩
      simp only [decide_eq_true_eq] at h2
      simp; omega
theorem digit_ok (b : UInt8) : ∃ c, ref11_Digit b = some c ∧ (c = true ↔ (48 ≤ b.toNat ∧ b.toNat ≤ 57)) := by
  unfold ref11_Digit
  split
  · rename_i h
    refine ⟨_, rfl, ?_⟩
    simp only [decide_eq_true_eq] at h ⊢
    omega
  · rename_i h
    refine ⟨_, rfl, ?_⟩
    simp only [decide_eq_true_eq] at h
    simp; omega
theorem name_L0 (s : Bytes) (hl : s.length ≤ 1099511627776) : ∀ (r : Bytes) (k : Nat), s.drop k = r →
    ∃ c, snode_Name_L0 (s, (k : Int)) = some (lr c) ∧ ref20_Name_L0 (s, (k : Int)) = some (lr c) := by
  intro r
  induction r with
  | nil =>
    intro k hk
    have hn := dropN hk
    rw [snode_Name_L0.eq_1, ref20_Name_L0.eq_1]
    exact ⟨true, by simp [hn, lr], by simp [hn, lr]⟩
  | cons b r ih =>
    intro k hk
    obtain ⟨a1, a2, a3, a4⟩ := dropC hk
    obtain ⟨c, c1, c2⟩ := ih (k + 1) a3
    obtain ⟨u, u1, u2⟩ := nameByte_ok b
    obtain ⟨v, v1, v2⟩ := letter_ok b
    obtain ⟨w, w1, w2⟩ := digit_ok b
    rw [snode_Name_L0.eq_1, ref20_Name_L0.eq_1]
    simp only [a1, decide_true, if_true, a2, Option.bind_eq_bind, Option.bind_some, wrS (by omega) a1, u1, v1, w1, c1, c2]
    cases v
    · by_cases h95 : b.toNat = 95
      · have hu : u = true := u2.2 (by omega)
        subst hu
        refine ⟨c, ?_, ?_⟩
        · have : ¬ ((b.toNat : Int) ≤ 57) := by omega
          simp [this]
        · simp [h95]
      · have h95' : ¬ ((b.toNat : Int) = 95) := by omega
        by_cases hk0 : (k : Int) = 0
        · refine ⟨false, ?_, by simp [h95', hk0, lr]⟩
          cases u
          · simp [lr]
          · have h1 := u2.1 rfl
            have h2 : ¬ (97 ≤ b.toNat ∧ b.toNat ≤ 122 ∨ 65 ≤ b.toNat ∧ b.toNat ≤ 90) := fun h => by simpa using v2.2 h
            have : (b.toNat : Int) ≤ 57 := by omega
            simp [hk0, this, lr]
        · cases w
          · have : u = false := by
              cases u
              · rfl
              · have h1 := u2.1 rfl
                have h2 : ¬ (97 ≤ b.toNat ∧ b.toNat ≤ 122 ∨ 65 ≤ b.toNat ∧ b.toNat ≤ 90) := fun h => by simpa using v2.2 h
                have h3 : ¬ (48 ≤ b.toNat ∧ b.toNat ≤ 57) := fun h => by simpa using w2.2 h
                omega
            subst this
            exact ⟨false, by simp [lr], by simp [h95', hk0, lr]⟩
          · have hu : u = true := u2.2 (by have := w2.1 rfl; omega)
            subst hu
            have hk1 : ¬ k = 0 := by omega
            exact ⟨c, by simp [hk1], by simp [h95', hk1]⟩
    · have hu : u = true := u2.2 (by have := v2.1 rfl; omega)
      subst hu
      refine ⟨c, ?_, by simp⟩
      have h1 := v2.1 rfl
      have : ¬ ((b.toNat : Int) ≤ 57) := by omega
      simp [this]
theorem nameSame (s : Bytes) (hl : s.length ≤ 1099511627776) : ∃ c, snode_Name s = some c ∧ ref20_Name s = some c := by
  obtain ⟨c, c1, c2⟩ := name_L0 s hl s 0 rfl
  rw [show ((0 : Nat) : Int) = 0 from rfl] at c1 c2
  unfold snode_Name ref20_Name
  rw [c1, c2]
  cases s with
  | nil => exact ⟨false, by cases c <;> rfl, rfl⟩
  | cons b r =>
    by_cases h : ((b :: r).length : Int) ≤ 64
    · refine ⟨c, ?_, ?_⟩
      · cases c <;> simp [lr]; simpa using h
      · rw [if_neg (by simp at h ⊢; omega)]
        cases c <;> rfl
    · refine ⟨false, ?_, ?_⟩
      · cases c <;> simp [lr]; simp at h; omega
      · rw [if_pos (by simp at h ⊢; omega)]
end Go.Proofs.YtmlmgbnhaenabaaGreat
