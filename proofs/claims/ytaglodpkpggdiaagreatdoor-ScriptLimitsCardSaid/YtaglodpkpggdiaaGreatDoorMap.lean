/-
  Scripts: numbers and texts as they are told, by the program and by the document.
-/
import Derived.Test.YtaglodpkpggdiaaGreatDoorMah
import Derived.Test.YtaglodpkpggdiaaGreatDoorMao
set_option linter.unusedSimpArgs false
set_option linter.unusedVariables false
namespace Go.Proofs.YtaglodpkpggdiaaGreatDoor
open Go Go.Gm
def iT (n : Int) : Bytes := Go.Lib.itoa n
def dT (n : Nat) : Bytes := Go.Lib.decDigits n
def xm (n : Int) : Bytes := [32] ++ iT n
def kz (s : Bytes) : Bytes := (xm (s.length : Int) ++ [58]) ++ s
def xc (n : Int) : Bool := decide (-1000000000000000000 < n) && decide (n < 1000000000000000000)
theorem p19 : (10 : Nat) ^ (18 + 1) = 10000000000000000000 := rfl
theorem qda : ∀ (k u : Nat),u < 10 ^ (k + 1) → Go.Lib.nDigits u ≤ k + 1
 | 0,u,h => by rw [Go.Lib.nDigits_small (by simpa using h)]; exact Nat.le_refl _
 | k + 1,u,h => by
  by_cases hu : u < 10
  ·rw [Go.Lib.nDigits_small hu]; omega
  ·rw [Go.Lib.nDigits_big hu]
   have := qda k (u / 10) (by rw [Nat.pow_succ] at h; omega)
   omega
theorem q63 {n k : Nat} (h : n < 10 ^ (k + 1)) : (dT n).length ≤ k + 1 := by
 unfold dT
 rw [Go.Lib.decDigits_length]
 exact qda k n h
theorem qew (n : Nat) : 1 ≤ (dT n).length := by
 unfold dT
 rw [Go.Lib.decDigits_length]
 exact Go.Lib.nDigits_pos n
theorem qg6 {n : Int} (h : inI n) : (iT n).length ≤ 20 := by
 obtain ⟨h1,h2⟩ := h
 unfold iT Go.Lib.itoa
 split
 ·have := q63 (n := n.natAbs) (k := 18) (by rw [p19]; omega)
  unfold dT at this
  simp only [List.length_cons]
  omega
 ·have := q63 (n := n.toNat) (k := 18) (by rw [p19]; omega)
  unfold dT at this
  omega
theorem q1p {n : Int} (h : inI n) : (xm n).length ≤ 21 := by
 unfold xm
 have := qg6 h
 simp only [List.length_append,List.length_cons,List.length_nil]
 omega
theorem q9n {n : Nat} (h : n ≤ 1000000) : inI (n : Int) := by
 unfold inI
 omega
theorem qa6 {s : Bytes} (h : s.length ≤ 100000) : (kz s).length ≤ s.length + 22 := by
 unfold kz
 have := q1p (q9n (n := s.length) (by omega))
 simp only [List.length_append,List.length_cons,List.length_nil]
 omega
theorem gy {n : Int} (h : inI n) : wz n = some (xm n) := by
 unfold wz q7o
 rw [if_pos (show -9223372036854775808 ≤ n ∧ n ≤ 9223372036854775807 from h)]
 simp only [Option.bind_eq_bind,Option.bind_some]
 have := qg6 h
 unfold iT at this
 rw [if_pos (by simp only [List.length_cons,List.length_nil]; omega)]
 rfl
theorem str_eq {s : Bytes} (h : s.length ≤ 100000) : q0o s = some (kz s) := by
 unfold q0o
 rw [gy (q9n (by omega))]
 simp only [Option.bind_eq_bind,Option.bind_some]
 have := q1p (q9n (n := s.length) (by omega))
 rw [if_pos (by simp only [List.length_cons,List.length_nil]; omega),if_pos (by simp only [List.length_append,List.length_cons,List.length_nil]; omega)]
 rfl
theorem qgm {n : Nat} : u8 (IntKind.u8.wrap (IntKind.i64.wrap ((48 : Int) + (((n : Nat) : Int).tmod (10 : Int))))) = UInt8.ofNat (48 + n % 10) := by
 have h : ((n : Nat) : Int).tmod 10 = ((n % 10 : Nat) : Int) := by
  rw [Int.tmod_eq_emod_of_nonneg (by omega)]
  rfl
 rw [h,jl (n := (48 : Int) + ((n % 10 : Nat) : Int)),qbo (by omega) (by omega)]
 unfold u8
 congr 1
theorem q87 {n : Int} (h0 : 0 ≤ n) : iT n = dT n.toNat := by
 unfold iT dT Go.Lib.itoa
 rw [if_neg (by omega)]
theorem zs5 (n : Int) : q1e ⟨false,[n]⟩ = some (xc n) := by
 unfold q1e
 have e : ∀ k : Int,uy (⟨false,[n]⟩,((1 : Nat) : Int),k) = if decide (k < ((1 : Nat) : Int)) then zb [n] k >>= fun x3 => if ((decide (x3 ≤ ((-1000000000000000000) : Int))) || (decide (x3 ≥ (1000000000000000000 : Int)))) then some (.inl false) else uy (⟨false,[n]⟩,((1 : Nat) : Int),IntKind.i64.wrap (k + 1)) else some (.inr ()) := fun k => by rw [uy.eq_1]
 show (uy (⟨false,[n]⟩,((1 : Nat) : Int),0) >>= _) = _
 rw [e 0]
 rw [if_pos (by simp)]
 have g : zb [n] 0 = some n := rfl
 rw [g]
 simp only [Option.bind_eq_bind,Option.bind_some]
 by_cases h : n ≤ -1000000000000000000 ∨ 1000000000000000000 ≤ n
 ·rw [if_pos (by simpa using h)]
  unfold xc
  simp
  omega
 ·rw [if_neg (by simpa using h),jl (n := 0 + 1),e (0 + 1),if_neg (by simp)]
  unfold xc
  simp
  omega
theorem qcd (n m : Int) : q1e ⟨false,[n,m]⟩ = some (xc n && xc m) := by
 unfold q1e
 have e : ∀ k : Int,uy (⟨false,[n,m]⟩,((2 : Nat) : Int),k) = if decide (k < ((2 : Nat) : Int)) then zb [n,m] k >>= fun x3 => if ((decide (x3 ≤ ((-1000000000000000000) : Int))) || (decide (x3 ≥ (1000000000000000000 : Int)))) then some (.inl false) else uy (⟨false,[n,m]⟩,((2 : Nat) : Int),IntKind.i64.wrap (k + 1)) else some (.inr ()) := fun k => by rw [uy.eq_1]
 show (uy (⟨false,[n,m]⟩,((2 : Nat) : Int),0) >>= _) = _
 rw [e 0]
 rw [if_pos (by simp)]
 have g : zb [n,m] 0 = some n := rfl
 rw [g]
 simp only [Option.bind_eq_bind,Option.bind_some]
 by_cases h : n ≤ -1000000000000000000 ∨ 1000000000000000000 ≤ n
 ·rw [if_pos (by simpa using h)]
  unfold xc
  simp
  omega
 ·rw [if_neg (by simpa using h),jl (n := 0 + 1),e (0 + 1),if_pos (by simp)]
  have g2 : zb [n,m] (0 + 1) = some m := rfl
  rw [g2]
  simp only [Option.bind_eq_bind,Option.bind_some]
  by_cases h2 : m ≤ -1000000000000000000 ∨ 1000000000000000000 ≤ m
  ·rw [if_pos (by simpa using h2)]
   unfold xc
   simp
   omega
  ·rw [if_neg (by simpa using h2),jl (n := 0 + 1 + 1),e (0 + 1 + 1),if_neg (by simp)]
   unfold xc
   simp
   omega
end Go.Proofs.YtaglodpkpggdiaaGreatDoor
