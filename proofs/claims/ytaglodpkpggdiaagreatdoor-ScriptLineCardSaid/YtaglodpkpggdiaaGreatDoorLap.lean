/-
  Scripts: numbers and texts as they are told, by the program and by the document.
-/
import Derived.Test.YtaglodpkpggdiaaGreatDoorLah
import Derived.Test.YtaglodpkpggdiaaGreatDoorLao
set_option linter.unusedSimpArgs false
set_option linter.unusedVariables false
namespace Go.Proofs.YtaglodpkpggdiaaGreatDoor
open Go Go.Gm
def iT (n : Int) : Bytes := Go.Lib.itoa n
def dT (n : Nat) : Bytes := Go.Lib.decDigits n
def xw (n : Int) : Bytes := [32] ++ iT n
def vw (s : Bytes) : Bytes := (xw (s.length : Int) ++ [58]) ++ s
def zo (n : Int) : Bool := decide (-1000000000000000000 < n) && decide (n < 1000000000000000000)
theorem p19 : (10 : Nat) ^ (18 + 1) = 10000000000000000000 := rfl
theorem qh6 : ∀ (k u : Nat),u < 10 ^ (k + 1) → Go.Lib.nDigits u ≤ k + 1
 | 0,u,h => by rw [Go.Lib.nDigits_small (by simpa using h)]; exact Nat.le_refl _
 | k + 1,u,h => by
  by_cases hu : u < 10
  ·rw [Go.Lib.nDigits_small hu]; omega
  ·rw [Go.Lib.nDigits_big hu]
   have := qh6 k (u / 10) (by rw [Nat.pow_succ] at h; omega)
   omega
theorem qa0 {n k : Nat} (h : n < 10 ^ (k + 1)) : (dT n).length ≤ k + 1 := by
 unfold dT
 rw [Go.Lib.decDigits_length]
 exact qh6 k n h
theorem qby (n : Nat) : 1 ≤ (dT n).length := by
 unfold dT
 rw [Go.Lib.decDigits_length]
 exact Go.Lib.nDigits_pos n
theorem qer {n : Int} (h : inI n) : (iT n).length ≤ 20 := by
 obtain ⟨h1,h2⟩ := h
 unfold iT Go.Lib.itoa
 split
 ·have := qa0 (n := n.natAbs) (k := 18) (by rw [p19]; omega)
  unfold dT at this
  simp only [List.length_cons]
  omega
 ·have := qa0 (n := n.toNat) (k := 18) (by rw [p19]; omega)
  unfold dT at this
  omega
theorem gp {n : Int} (h : inI n) : (xw n).length ≤ 21 := by
 unfold xw
 have := qer h
 simp only [List.length_append,List.length_cons,List.length_nil]
 omega
theorem qbd {n : Nat} (h : n ≤ 1000000) : inI (n : Int) := by
 unfold inI
 omega
theorem q60 {s : Bytes} (h : s.length ≤ 100000) : (vw s).length ≤ s.length + 22 := by
 unfold vw
 have := gp (qbd (n := s.length) (by omega))
 simp only [List.length_append,List.length_cons,List.length_nil]
 omega
theorem ny {n : Int} (h : inI n) : yc n = some (xw n) := by
 unfold yc q8w
 rw [if_pos (show -9223372036854775808 ≤ n ∧ n ≤ 9223372036854775807 from h)]
 simp only [Option.bind_eq_bind,Option.bind_some]
 have := qer h
 unfold iT at this
 rw [if_pos (by simp only [List.length_cons,List.length_nil]; omega)]
 rfl
theorem str_eq {s : Bytes} (h : s.length ≤ 100000) : q18 s = some (vw s) := by
 unfold q18
 rw [ny (qbd (by omega))]
 simp only [Option.bind_eq_bind,Option.bind_some]
 have := gp (qbd (n := s.length) (by omega))
 rw [if_pos (by simp only [List.length_cons,List.length_nil]; omega),if_pos (by simp only [List.length_append,List.length_cons,List.length_nil]; omega)]
 rfl
theorem z99 {n : Int} (h0 : 0 ≤ n) : iT n = dT n.toNat := by
 unfold iT dT Go.Lib.itoa
 rw [if_neg (by omega)]
theorem zo6 (n : Int) : q2f ⟨false,[n]⟩ = some (zo n) := by
 unfold q2f
 have e : ∀ k : Int,ng (⟨false,[n]⟩,((1 : Nat) : Int),k) = if decide (k < ((1 : Nat) : Int)) then ql [n] k >>= fun x3 => if ((decide (x3 ≤ ((-1000000000000000000) : Int))) || (decide (x3 ≥ (1000000000000000000 : Int)))) then some (.inl false) else ng (⟨false,[n]⟩,((1 : Nat) : Int),IntKind.i64.wrap (k + 1)) else some (.inr ()) := fun k => by rw [ng.eq_1]
 show (ng (⟨false,[n]⟩,((1 : Nat) : Int),0) >>= _) = _
 rw [e 0]
 rw [if_pos (by simp)]
 have g : ql [n] 0 = some n := rfl
 rw [g]
 simp only [Option.bind_eq_bind,Option.bind_some]
 by_cases h : n ≤ -1000000000000000000 ∨ 1000000000000000000 ≤ n
 ·rw [if_pos (by simpa using h)]
  unfold zo
  simp
  omega
 ·rw [if_neg (by simpa using h),xn (n := 0 + 1),e (0 + 1),if_neg (by simp)]
  unfold zo
  simp
  omega
theorem qe5 (n m : Int) : q2f ⟨false,[n,m]⟩ = some (zo n && zo m) := by
 unfold q2f
 have e : ∀ k : Int,ng (⟨false,[n,m]⟩,((2 : Nat) : Int),k) = if decide (k < ((2 : Nat) : Int)) then ql [n,m] k >>= fun x3 => if ((decide (x3 ≤ ((-1000000000000000000) : Int))) || (decide (x3 ≥ (1000000000000000000 : Int)))) then some (.inl false) else ng (⟨false,[n,m]⟩,((2 : Nat) : Int),IntKind.i64.wrap (k + 1)) else some (.inr ()) := fun k => by rw [ng.eq_1]
 show (ng (⟨false,[n,m]⟩,((2 : Nat) : Int),0) >>= _) = _
 rw [e 0]
 rw [if_pos (by simp)]
 have g : ql [n,m] 0 = some n := rfl
 rw [g]
 simp only [Option.bind_eq_bind,Option.bind_some]
 by_cases h : n ≤ -1000000000000000000 ∨ 1000000000000000000 ≤ n
 ·rw [if_pos (by simpa using h)]
  unfold zo
  simp
  omega
 ·rw [if_neg (by simpa using h),xn (n := 0 + 1),e (0 + 1),if_pos (by simp)]
  have g2 : ql [n,m] (0 + 1) = some m := rfl
  rw [g2]
  simp only [Option.bind_eq_bind,Option.bind_some]
  by_cases h2 : m ≤ -1000000000000000000 ∨ 1000000000000000000 ≤ m
  ·rw [if_pos (by simpa using h2)]
   unfold zo
   simp
   omega
  ·rw [if_neg (by simpa using h2),xn (n := 0 + 1 + 1),e (0 + 1 + 1),if_neg (by simp)]
   unfold zo
   simp
   omega
end Go.Proofs.YtaglodpkpggdiaaGreatDoor
