/-
  The laws StopsTell and StopsWalk, on plain data.
-/
import Derived.Test.YtdhgdeelagmbpaaStNum
import Derived.Test.YtdhgdeelagmbpaaStPre
set_option linter.unusedSimpArgs false
set_option linter.unusedVariables false
namespace Go.Proofs.Ytdhgdeelagmbpaa
open Go Go.Gm

def aboveB (n cur : Int) : Bool := cur != 0 && (n == 0 || decide (n > cur))
theorem above_eq (n cur : Int) : stops_above n cur = some (aboveB n cur) := by
  unfold stops_above aboveB
  by_cases h : cur = 0
  · simp [h]
  · have h' : (cur == 0) = false := by simpa using h
    by_cases h2 : n = 0
    · simp [h', h2, bne]
    · have h2' : (n == 0) = false := by simpa using h2
      simp [h', h2', bne]
theorem above_eq' (n cur : Int) : ref26_above n cur = some (aboveB n cur) := by
  unfold ref26_above aboveB
  by_cases h : cur = 0
  · simp [h]
  · have h' : (cur == 0) = false := by simpa using h
    by_cases h2 : n = 0
    · simp [h', h2, bne]
    · have h2' : (n == 0) = false := by simpa using h2
      simp [h', h2', bne]

def hit (o : Option Int) : (Int × Bool) ⊕ Unit := match o with | some x => .inl (x, true) | none => .inr ()
def hitP (o : Option Int) : Int × Bool := match o with | some x => (x, true) | none => (0, false)

theorem next_L0 (cur : Int) (l : List Int) (hl : l.length < 2 ^ 60) : ∀ (n k : Nat), k + n = l.length → stops_Next_L0 (cur, (l.length : Int), (k : Int), l) = some (hit ((l.drop k).find? (aboveB · cur))) := by
  intro n
  induction n with
  | zero =>
    intro k hk
    have h2 : l.drop k = [] := by simp; omega
    rw [stops_Next_L0.eq_1, h2]
    have h1 : ¬ k < l.length := by omega
    simp [h1, hit]
  | succ n ih =>
    intro k hk
    have hkl : k < l.length := by omega
    have hx := geti_some hkl
    have hd := List.drop_eq_getElem_cons hkl
    generalize l[k] = x at hx hd
    have hw : IntKind.i64.wrap ((k : Int) + 1) = ((k + 1 : Nat) : Int) := wrap_succ (by omega)
    rw [stops_Next_L0.eq_1, hd]
    simp only [hx, Option.bind_eq_bind, Option.bind_some, hw, ih (k + 1) (by omega), above_eq]
    cases h : aboveB x cur <;> simp [hkl, h, hit]

theorem refnext_L0 (cur : Int) (ns : Sl Int) (hl : ns.l.length < 2 ^ 60) : ∀ (n k : Nat), k + n = ns.l.length → ref26_Next_L0 (cur, ns, (k : Int)) = some (hit ((ns.l.drop k).find? (aboveB · cur))) := by
  intro n
  induction n with
  | zero =>
    intro k hk
    have h2 : ns.l.drop k = [] := by simp; omega
    rw [ref26_Next_L0.eq_1, h2]
    have h1 : ¬ k < ns.l.length := by omega
    simp [h1, hit]
  | succ n ih =>
    intro k hk
    have hkl : k < ns.l.length := by omega
    have hx := geti_some hkl
    have hd := List.drop_eq_getElem_cons hkl
    generalize ns.l[k] = x at hx hd
    have hw : IntKind.i64.wrap ((k : Int) + 1) = ((k + 1 : Nat) : Int) := wrap_succ (by omega)
    rw [ref26_Next_L0.eq_1, hd]
    simp only [hx, Option.bind_eq_bind, Option.bind_some, hw, ih (k + 1) (by omega), above_eq']
    cases h : aboveB x cur <;> simp [hkl, h, hit]

theorem prev_L0 (cur : Int) (l : List Int) (hl : l.length < 2 ^ 60) : ∀ (n k : Nat), k + n = l.length → stops_Prev_L0 (cur, (l.length : Int), (k : Int), l) = some (hit ((l.drop k).find? (aboveB cur ·))) := by
  intro n
  induction n with
  | zero =>
    intro k hk
    have h2 : l.drop k = [] := by simp; omega
    rw [stops_Prev_L0.eq_1, h2]
    have h1 : ¬ k < l.length := by omega
    simp [h1, hit]
  | succ n ih =>
    intro k hk
    have hkl : k < l.length := by omega
    have hx := geti_some hkl
    have hd := List.drop_eq_getElem_cons hkl
    generalize l[k] = x at hx hd
    have hw : IntKind.i64.wrap ((k : Int) + 1) = ((k + 1 : Nat) : Int) := wrap_succ (by omega)
    rw [stops_Prev_L0.eq_1, hd]
    simp only [hx, Option.bind_eq_bind, Option.bind_some, hw, ih (k + 1) (by omega), above_eq]
    cases h : aboveB cur x <;> simp [hkl, h, hit]

theorem refprev_L0 (cur : Int) (ns : Sl Int) (hl : ns.l.length < 2 ^ 60) : ∀ (k : Nat), k ≤ ns.l.length → ref26_Prev_L0 (cur, ns, (k : Int) - 1) = some (hit ((ns.l.take k).reverse.find? (aboveB cur ·))) := by
  intro k
  induction k with
  | zero =>
    intro _
    rw [ref26_Prev_L0.eq_1]
    simp [hit]
  | succ k ih =>
    intro hk
    have hkl : k < ns.l.length := by omega
    have hx := geti_some hkl
    have hd : ns.l.take (k + 1) = ns.l.take k ++ [ns.l[k]] := by rw [List.take_add_one]; simp [hkl]
    generalize ns.l[k] = x at hx hd
    have e : ((k + 1 : Nat) : Int) - 1 = (k : Int) := by omega
    have hw : IntKind.i64.wrap ((k : Int) - 1) = (k : Int) - 1 := wrap_in (by omega) (by omega)
    rw [e, ref26_Prev_L0.eq_1, hd]
    simp only [hx, Option.bind_eq_bind, Option.bind_some, hw, ih (by omega), above_eq']
    cases h : aboveB cur x <;> simp [h, hit]

theorem set_at {α : Type} (x y : α) (R : List α) : ∀ A : List α, (A ++ x :: R).set A.length y = A ++ y :: R
  | [] => rfl
  | a :: A => by simp [set_at x y R A]
theorem geti_len {α : Type} (x : α) (R A : List α) : geti (A ++ x :: R) (A.length : Int) = some x := by
  have : A.length < (A ++ x :: R).length := by simp
  rw [geti_some this]
  simp

/-- Turned round in place. -/
theorem rev_L0 : ∀ (N : Nat) (A M B : List Int), M.length = N → A.length + N < 2 ^ 60 → slices_Reverse_Lint_L0 ((A.length : Int), (A.length : Int) + N - 1, A ++ (M ++ B)) = some (A ++ (M.reverse ++ B)) := by
  intro N
  induction N using Nat.strongRecOn with
  | _ N ih =>
  intro A M B hM hl
  rw [slices_Reverse_Lint_L0.eq_1]
  cases M with
  | nil =>
    obtain rfl : N = 0 := by simpa using hM.symm
    rw [if_neg (by simp; omega)]
    rfl
  | cons x M =>
    rcases List.eq_nil_or_concat M with rfl | ⟨M', y, rfl⟩
    · obtain rfl : N = 1 := by simpa using hM.symm
      rw [if_neg (by simp)]
      rfl
    · have hN : N = M'.length + 2 := by simp at hM; omega
      subst hN
      have hlt : (A.length : Int) < (A.length : Int) + ((M'.length + 2 : Nat) : Int) - 1 := by omega
      rw [if_pos (by simpa using hlt)]
      have e1 : A ++ (x :: M'.concat y ++ B) = (A ++ x :: M') ++ y :: B := by simp
      have e2 : (A.length : Int) + ((M'.length + 2 : Nat) : Int) - 1 = ((A ++ x :: M').length : Int) := by simp; omega
      have g1 : geti (A ++ (x :: M'.concat y ++ B)) ((A.length : Int) + ((M'.length + 2 : Nat) : Int) - 1) = some y := by rw [e1, e2]; exact geti_len _ _ _
      have g2 : geti (A ++ (x :: M'.concat y ++ B)) (A.length : Int) = some x := by
        have : A ++ (x :: M'.concat y ++ B) = A ++ x :: (M'.concat y ++ B) := by simp
        rw [this]; exact geti_len _ _ _
      have s1 : (A ++ (x :: M'.concat y ++ B)).set A.length y = A ++ y :: (M'.concat y ++ B) := by
        have : A ++ (x :: M'.concat y ++ B) = A ++ x :: (M'.concat y ++ B) := by simp
        rw [this]; exact set_at _ _ _ _
      have e3 : A ++ y :: (M'.concat y ++ B) = (A ++ y :: M') ++ y :: B := by simp
      have e4 : (A ++ x :: M').length = (A ++ y :: M').length := by simp
      have g3 : geti (A ++ y :: (M'.concat y ++ B)) ((A.length : Int) + ((M'.length + 2 : Nat) : Int) - 1) = some y := by rw [e3, e2, e4]; exact geti_len _ _ _
      have s2 : (A ++ y :: (M'.concat y ++ B)).set ((A.length : Int) + ((M'.length + 2 : Nat) : Int) - 1).toNat x = (A ++ [y]) ++ (M' ++ (x :: B)) := by
        rw [e2, e4, e3, Int.toNat_natCast, set_at]
        simp
      have hw1 : IntKind.i64.wrap ((A.length : Int) + 1) = ((A ++ [y]).length : Int) := by rw [wrap_in (by omega) (by omega)]; simp
      have hw2 : IntKind.i64.wrap ((A.length : Int) + ((M'.length + 2 : Nat) : Int) - 1 - 1) = ((A ++ [y]).length : Int) + M'.length - 1 := by rw [wrap_in (by omega) (by omega)]; simp; omega
      simp only [g1, g2, Option.bind_eq_bind, Option.bind_some, Int.toNat_natCast, s1, g3, s2, hw1, hw2]
      rw [ih M'.length (by omega) (A ++ [y]) M' (x :: B) rfl (by simp; omega)]
      simp

theorem rev_eq (l : List Int) (hl : l.length < 2 ^ 60) : slices_Reverse_Lint l = some l.reverse := by
  have := rev_L0 l.length [] l [] rfl (by simpa using hl)
  unfold slices_Reverse_Lint
  have hw : IntKind.i64.wrap ((l.length : Int) - 1) = (l.length : Int) - 1 := wrap_in (by omega) (by omega)
  rw [hw]
  simp only [List.length_nil, Int.natCast_zero, Int.zero_add, List.nil_append, List.append_nil] at this
  rw [this]
  rfl

theorem next_eq (cur : Int) (is : Sl T.Inst) (out : List Int) (h : stops_Numbers is = some out) (hl : out.length < 2 ^ 60) : stops_Next cur is = some (hitP (out.find? (aboveB · cur))) := by
  have h1 := next_L0 cur out hl out.length 0 (by omega)
  simp only [Int.natCast_zero, List.drop_zero] at h1
  unfold stops_Next
  simp only [h, h1, Option.bind_eq_bind, Option.bind_some]
  cases out.find? (aboveB · cur) <;> rfl
theorem refnext_eq (cur : Int) (is : Sl T.Inst) (out : Sl Int) (h : ref26_Numbers is = some out) (hl : out.l.length < 2 ^ 60) : ref26_Next cur is = some (hitP (out.l.find? (aboveB · cur))) := by
  have h1 := refnext_L0 cur out hl out.l.length 0 (by omega)
  simp only [Int.natCast_zero, List.drop_zero] at h1
  unfold ref26_Next
  simp only [h, h1, Option.bind_eq_bind, Option.bind_some]
  cases out.l.find? (aboveB · cur) <;> rfl
theorem prev_eq (cur : Int) (is : Sl T.Inst) (out : List Int) (h : stops_Numbers is = some out) (hl : out.length < 2 ^ 60) : stops_Prev cur is = some (hitP (out.reverse.find? (aboveB cur ·))) := by
  have h1 := prev_L0 cur out.reverse (by simpa using hl) out.reverse.length 0 (by omega)
  simp only [Int.natCast_zero, List.drop_zero] at h1
  unfold stops_Prev
  simp only [h, rev_eq out hl, h1, Option.bind_eq_bind, Option.bind_some]
  cases out.reverse.find? (aboveB cur ·) <;> rfl
theorem refprev_eq (cur : Int) (is : Sl T.Inst) (out : Sl Int) (h : ref26_Numbers is = some out) (hl : out.l.length < 2 ^ 60) : ref26_Prev cur is = some (hitP (out.l.reverse.find? (aboveB cur ·))) := by
  have h1 := refprev_L0 cur out hl out.l.length (Nat.le_refl _)
  rw [List.take_length] at h1
  have hw : IntKind.i64.wrap ((out.l.length : Int) - 1) = (out.l.length : Int) - 1 := wrap_in (by omega) (by omega)
  unfold ref26_Prev
  simp only [h, hw, h1, Option.bind_eq_bind, Option.bind_some]
  cases out.l.reverse.find? (aboveB cur ·) <;> rfl

end Go.Proofs.Ytdhgdeelagmbpaa
