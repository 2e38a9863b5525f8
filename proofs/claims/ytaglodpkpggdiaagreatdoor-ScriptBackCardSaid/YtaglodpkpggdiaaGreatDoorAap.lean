/-
  Scripts: numbers and texts as they are told, by the program and by the document.
-/
import Derived.Test.YtaglodpkpggdiaaGreatDoorAah
import Derived.Test.YtaglodpkpggdiaaGreatDoorAao
set_option linter.unusedSimpArgs false
set_option linter.unusedVariables false
namespace Go.Proofs.YtaglodpkpggdiaaGreatDoor
open Go Go.Gm
def iT (n : Int) : Bytes := Go.Lib.itoa n
def dT (n : Nat) : Bytes := Go.Lib.decDigits n
def xg (n : Int) : Bytes := [32] ++ iT n
def jo (s : Bytes) : Bytes := (xg (s.length : Int) ++ [58]) ++ s
def zb (n : Int) : Bool := decide (-1000000000000000000 < n) && decide (n < 1000000000000000000)
theorem p19 : (10 : Nat) ^ (18 + 1) = 10000000000000000000 := rfl
theorem qeh : ∀ (k u : Nat),u < 10 ^ (k + 1) → Go.Lib.nDigits u ≤ k + 1
 | 0,u,h => by rw [Go.Lib.nDigits_small (by simpa using h)]; exact Nat.le_refl _
 | k + 1,u,h => by
  by_cases hu : u < 10
  ·rw [Go.Lib.nDigits_small hu]; omega
  ·rw [Go.Lib.nDigits_big hu]
   have := qeh k (u / 10) (by rw [Nat.pow_succ] at h; omega)
   omega
theorem qbm {n k : Nat} (h : n < 10 ^ (k + 1)) : (dT n).length ≤ k + 1 := by
 unfold dT
 rw [Go.Lib.decDigits_length]
 exact qeh k n h
theorem qeb (n : Nat) : 1 ≤ (dT n).length := by
 unfold dT
 rw [Go.Lib.decDigits_length]
 exact Go.Lib.nDigits_pos n
theorem qh8 {n : Int} (h : inI n) : (iT n).length ≤ 20 := by
 obtain ⟨h1,h2⟩ := h
 unfold iT Go.Lib.itoa
 split
 ·have := qbm (n := n.natAbs) (k := 18) (by rw [p19]; omega)
  unfold dT at this
  simp only [List.length_cons]
  omega
 ·have := qbm (n := n.toNat) (k := 18) (by rw [p19]; omega)
  unfold dT at this
  omega
theorem uo {n : Int} (h : inI n) : (xg n).length ≤ 21 := by
 unfold xg
 have := qh8 h
 simp only [List.length_append,List.length_cons,List.length_nil]
 omega
theorem q9u {n : Nat} (h : n ≤ 1000000) : inI (n : Int) := by
 unfold inI
 omega
theorem q5m {s : Bytes} (h : s.length ≤ 100000) : (jo s).length ≤ s.length + 22 := by
 unfold jo
 have := uo (q9u (n := s.length) (by omega))
 simp only [List.length_append,List.length_cons,List.length_nil]
 omega
theorem ma {n : Int} (h : inI n) : yg n = some (xg n) := by
 unfold yg q8z
 rw [if_pos (show -9223372036854775808 ≤ n ∧ n ≤ 9223372036854775807 from h)]
 simp only [Option.bind_eq_bind,Option.bind_some]
 have := qh8 h
 unfold iT at this
 rw [if_pos (by simp only [List.length_cons,List.length_nil]; omega)]
 rfl
theorem str_eq {s : Bytes} (h : s.length ≤ 100000) : q1d s = some (jo s) := by
 unfold q1d
 rw [ma (q9u (by omega))]
 simp only [Option.bind_eq_bind,Option.bind_some]
 have := uo (q9u (n := s.length) (by omega))
 rw [if_pos (by simp only [List.length_cons,List.length_nil]; omega),if_pos (by simp only [List.length_append,List.length_cons,List.length_nil]; omega)]
 rfl
theorem qcl {n : Int} (h0 : 0 ≤ n) : iT n = dT n.toNat := by
 unfold iT dT Go.Lib.itoa
 rw [if_neg (by omega)]
theorem zr3 (n : Int) : q2b ⟨false,[n]⟩ = some (zb n) := by
 unfold q2b
 have e : ∀ k : Int,nz (⟨false,[n]⟩,((1 : Nat) : Int),k) = if decide (k < ((1 : Nat) : Int)) then ql [n] k >>= fun x3 => if ((decide (x3 ≤ ((-1000000000000000000) : Int))) || (decide (x3 ≥ (1000000000000000000 : Int)))) then some (.inl false) else nz (⟨false,[n]⟩,((1 : Nat) : Int),IntKind.i64.wrap (k + 1)) else some (.inr ()) := fun k => by rw [nz.eq_1]
 show (nz (⟨false,[n]⟩,((1 : Nat) : Int),0) >>= _) = _
 rw [e 0]
 rw [if_pos (by simp)]
 have g : ql [n] 0 = some n := rfl
 rw [g]
 simp only [Option.bind_eq_bind,Option.bind_some]
 by_cases h : n ≤ -1000000000000000000 ∨ 1000000000000000000 ≤ n
 ·rw [if_pos (by simpa using h)]
  unfold zb
  simp
  omega
 ·rw [if_neg (by simpa using h),xy (n := 0 + 1),e (0 + 1),if_neg (by simp)]
  unfold zb
  simp
  omega
theorem qdl (n m : Int) : q2b ⟨false,[n,m]⟩ = some (zb n && zb m) := by
 unfold q2b
 have e : ∀ k : Int,nz (⟨false,[n,m]⟩,((2 : Nat) : Int),k) = if decide (k < ((2 : Nat) : Int)) then ql [n,m] k >>= fun x3 => if ((decide (x3 ≤ ((-1000000000000000000) : Int))) || (decide (x3 ≥ (1000000000000000000 : Int)))) then some (.inl false) else nz (⟨false,[n,m]⟩,((2 : Nat) : Int),IntKind.i64.wrap (k + 1)) else some (.inr ()) := fun k => by rw [nz.eq_1]
 show (nz (⟨false,[n,m]⟩,((2 : Nat) : Int),0) >>= _) = _
 rw [e 0]
 rw [if_pos (by simp)]
 have g : ql [n,m] 0 = some n := rfl
 rw [g]
 simp only [Option.bind_eq_bind,Option.bind_some]
 by_cases h : n ≤ -1000000000000000000 ∨ 1000000000000000000 ≤ n
 ·rw [if_pos (by simpa using h)]
  unfold zb
  simp
  omega
 ·rw [if_neg (by simpa using h),xy (n := 0 + 1),e (0 + 1),if_pos (by simp)]
  have g2 : ql [n,m] (0 + 1) = some m := rfl
  rw [g2]
  simp only [Option.bind_eq_bind,Option.bind_some]
  by_cases h2 : m ≤ -1000000000000000000 ∨ 1000000000000000000 ≤ m
  ·rw [if_pos (by simpa using h2)]
   unfold zb
   simp
   omega
  ·rw [if_neg (by simpa using h2),xy (n := 0 + 1 + 1),e (0 + 1 + 1),if_neg (by simp)]
   unfold zb
   simp
   omega
end Go.Proofs.YtaglodpkpggdiaaGreatDoor
