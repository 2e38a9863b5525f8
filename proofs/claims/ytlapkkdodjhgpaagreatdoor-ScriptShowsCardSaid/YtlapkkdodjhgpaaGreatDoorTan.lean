/-
  Scripts: numbers and texts as they are told, by the program and by the document.
-/
import Derived.Test.YtlapkkdodjhgpaaGreatDoorTah
import Derived.Test.YtlapkkdodjhgpaaGreatDoorTam
set_option linter.unusedSimpArgs false
set_option linter.unusedVariables false
namespace Go.Proofs.YtlapkkdodjhgpaaGreatDoor
open Go Go.Gm
def iT (n : Int) : Bytes := Go.Lib.itoa n
def dT (n : Nat) : Bytes := Go.Lib.decDigits n
def zg (n : Int) : Bytes := [32] ++ iT n
def wh (s : Bytes) : Bytes := (zg (s.length : Int) ++ [58]) ++ s
def zq (n : Int) : Bool := decide (-1000000000000000000 < n) && decide (n < 1000000000000000000)
theorem p19 : (10 : Nat) ^ (18 + 1) = 10000000000000000000 := rfl
theorem qdl : ∀ (k u : Nat),u < 10 ^ (k + 1) → Go.Lib.nDigits u ≤ k + 1
 | 0,u,h => by rw [Go.Lib.nDigits_small (by simpa using h)]; exact Nat.le_refl _
 | k + 1,u,h => by
  by_cases hu : u < 10
  ·rw [Go.Lib.nDigits_small hu]; omega
  ·rw [Go.Lib.nDigits_big hu]
   have := qdl k (u / 10) (by rw [Nat.pow_succ] at h; omega)
   omega
theorem q4q {n k : Nat} (h : n < 10 ^ (k + 1)) : (dT n).length ≤ k + 1 := by
 unfold dT
 rw [Go.Lib.decDigits_length]
 exact qdl k n h
theorem qej {n : Int} (h : inI n) : (iT n).length ≤ 20 := by
 obtain ⟨h1,h2⟩ := h
 unfold iT Go.Lib.itoa
 split
 ·have := q4q (n := n.natAbs) (k := 18) (by rw [p19]; omega)
  unfold dT at this
  simp only [List.length_cons]
  omega
 ·have := q4q (n := n.toNat) (k := 18) (by rw [p19]; omega)
  unfold dT at this
  omega
theorem xq {n : Int} (h : inI n) : (zg n).length ≤ 21 := by
 unfold zg
 have := qej h
 simp only [List.length_append,List.length_cons,List.length_nil]
 omega
theorem q9a {n : Nat} (h : n ≤ 1000000) : inI (n : Int) := by
 unfold inI
 omega
theorem tu {s : Bytes} (h : s.length ≤ 100000) : (wh s).length ≤ s.length + 22 := by
 unfold wh
 have := xq (q9a (n := s.length) (by omega))
 simp only [List.length_append,List.length_cons,List.length_nil]
 omega
theorem yo {n : Int} (h : inI n) : kg n = some (zg n) := by
 unfold kg q64
 rw [if_pos (show -9223372036854775808 ≤ n ∧ n ≤ 9223372036854775807 from h)]
 simp only [Option.bind_eq_bind,Option.bind_some]
 have := qej h
 unfold iT at this
 rw [if_pos (by simp only [List.length_cons,List.length_nil]; omega)]
 rfl
theorem str_eq {s : Bytes} (h : s.length ≤ 100000) : q00 s = some (wh s) := by
 unfold q00
 rw [yo (q9a (by omega))]
 simp only [Option.bind_eq_bind,Option.bind_some]
 have := xq (q9a (n := s.length) (by omega))
 rw [if_pos (by simp only [List.length_cons,List.length_nil]; omega),if_pos (by simp only [List.length_append,List.length_cons,List.length_nil]; omega)]
 rfl
theorem qai {n : Nat} : u8 (IntKind.u8.wrap (IntKind.i64.wrap ((48 : Int) + (((n : Nat) : Int).tmod (10 : Int))))) = UInt8.ofNat (48 + n % 10) := by
 have h : ((n : Nat) : Int).tmod 10 = ((n % 10 : Nat) : Int) := by
  rw [Int.tmod_eq_emod_of_nonneg (by omega)]
  rfl
 rw [h,jh (n := (48 : Int) + ((n % 10 : Nat) : Int)),qiw (by omega) (by omega)]
 unfold u8
 congr 1
theorem zwi : ∀ (m n : Nat) (r r0 : Bytes),n ≤ m → n ≤ 9223372036854775807 → r.length + Go.Lib.nDigits n ≤ 1000 →
  q1u ((n : Int),UInt8.ofNat (48 + n % 10) :: r,r0) = some (dT n ++ r) := by
 intro m
 induction m with
 | zero =>
  intro n r r0 h1 h2 h3
  have : n = 0 := by omega
  subst this
  rw [q1u.eq_1,if_neg (by simp)]
  unfold dT
  rw [Go.Lib.decDigits_one (by omega)]
  rfl
 | succ m ih =>
  intro n r r0 h1 h2 h3
  rw [q1u.eq_1]
  by_cases h : 10 ≤ n
  ·rw [if_pos (by simp; omega)]
   have hd : ((n : Nat) : Int).tdiv 10 = ((n / 10 : Nat) : Int) := by
    rw [Int.tdiv_eq_ediv_of_nonneg (by omega)]
    rfl
   rw [hd,jh (n := ((n / 10 : Nat) : Int)),qai]
   have hn := Go.Lib.nDigits_big (u := n) (by omega)
   rw [if_pos (by simp only [List.length_cons,List.length_nil]; omega)]
   have hh := ih (n / 10) (UInt8.ofNat (48 + n % 10) :: r) r0 (by omega) (by omega) (by simp only [List.length_cons]; omega)
   rw [List.cons_append,List.nil_append,hh]
   unfold dT
   conv => rhs; rw [Go.Lib.decDigits,dif_neg (by omega)]
   rw [List.append_assoc]
   rfl
  ·rw [if_neg (by simp; omega)]
   unfold dT
   rw [Go.Lib.decDigits_one (by omega),Nat.mod_eq_of_lt (by omega)]
   rfl
theorem q75 {n : Int} (h0 : 0 ≤ n) (h : n ≤ 9223372036854775807) : q1q n = some (dT n.toNat) := by
 obtain ⟨k,rfl⟩ : ∃ k : Nat,n = (k : Int) := ⟨n.toNat,by omega⟩
 unfold q1q
 rw [qai]
 have := q4q (n := k) (k := 18) (by rw [p19]; omega)
 unfold dT at this
 rw [Go.Lib.decDigits_length] at this
 rw [zwi k k [] _ (Nat.le_refl _) (by omega) (by simp only [List.length_nil]; omega)]
 simp
theorem q89 {n : Int} (h0 : 0 ≤ n) : iT n = dT n.toNat := by
 unfold iT dT Go.Lib.itoa
 rw [if_neg (by omega)]
theorem q47 {n : Int} (h : inI n) (h2 : -9223372036854775808 < n) : pq n = some (iT n) := by
 obtain ⟨h0,h1⟩ := h
 unfold pq
 by_cases hn : n < 0
 ·rw [if_pos (by simpa using hn),jh (n := 0 - n),q75 (by omega) (by omega)]
  simp only [Option.bind_eq_bind,Option.bind_some]
  have := q4q (n := (0 - n).toNat) (k := 18) (by rw [p19]; omega)
  rw [if_pos (by simp only [List.length_cons,List.length_nil]; omega)]
  unfold iT dT Go.Lib.itoa
  rw [if_pos hn]
  have : (0 - n).toNat = n.natAbs := by omega
  rw [this]
  rfl
 ·rw [if_neg (by simpa using hn),q75 (by omega) (by omega)]
  simp only [Option.bind_eq_bind,Option.bind_some]
  rw [q89 (by omega)]
theorem q6e {s : Bytes} (h : s.length ≤ 100000) : q2d s = some (wh s) := by
 unfold q2d
 rw [q75 (by omega) (by omega)]
 simp only [Option.bind_eq_bind,Option.bind_some]
 have := q4q (n := (s.length : Int).toNat) (k := 18) (by rw [p19]; omega)
 rw [if_pos (by simp only [List.length_cons,List.length_nil]; omega),if_pos (by simp only [List.length_append,List.length_cons,List.length_nil]; omega),if_pos (by simp only [List.length_append,List.length_cons,List.length_nil]; omega)]
 unfold wh zg
 rw [q89 (by omega)]
theorem q4w (n : Int) : q1h n = some (zq n) := by
 unfold q1h zq
 split
 ·rename_i h
  simp at h
  congr 1
  rw [Bool.eq_iff_iff]
  simp
  omega
 ·rename_i h
  simp at h
  congr 1
  rw [Bool.eq_iff_iff]
  simp
  omega
theorem qgp (n : Int) : q0n ⟨false,[n]⟩ = some (zq n) := by
 unfold q0n
 have e : ∀ k : Int,ym (⟨false,[n]⟩,((1 : Nat) : Int),k) = if decide (k < ((1 : Nat) : Int)) then qi [n] k >>= fun x3 => if ((decide (x3 ≤ ((-1000000000000000000) : Int))) || (decide (x3 ≥ (1000000000000000000 : Int)))) then some (.inl false) else ym (⟨false,[n]⟩,((1 : Nat) : Int),IntKind.i64.wrap (k + 1)) else some (.inr ()) := fun k => by rw [ym.eq_1]
 show (ym (⟨false,[n]⟩,((1 : Nat) : Int),0) >>= _) = _
 rw [e 0]
 rw [if_pos (by simp)]
 have g : qi [n] 0 = some n := rfl
 rw [g]
 simp only [Option.bind_eq_bind,Option.bind_some]
 by_cases h : n ≤ -1000000000000000000 ∨ 1000000000000000000 ≤ n
 ·rw [if_pos (by simpa using h)]
  unfold zq
  simp
  omega
 ·rw [if_neg (by simpa using h),jh (n := 0 + 1),e (0 + 1),if_neg (by simp)]
  unfold zq
  simp
  omega
theorem qcz (n m : Int) : q0n ⟨false,[n,m]⟩ = some (zq n && zq m) := by
 unfold q0n
 have e : ∀ k : Int,ym (⟨false,[n,m]⟩,((2 : Nat) : Int),k) = if decide (k < ((2 : Nat) : Int)) then qi [n,m] k >>= fun x3 => if ((decide (x3 ≤ ((-1000000000000000000) : Int))) || (decide (x3 ≥ (1000000000000000000 : Int)))) then some (.inl false) else ym (⟨false,[n,m]⟩,((2 : Nat) : Int),IntKind.i64.wrap (k + 1)) else some (.inr ()) := fun k => by rw [ym.eq_1]
 show (ym (⟨false,[n,m]⟩,((2 : Nat) : Int),0) >>= _) = _
 rw [e 0]
 rw [if_pos (by simp)]
 have g : qi [n,m] 0 = some n := rfl
 rw [g]
 simp only [Option.bind_eq_bind,Option.bind_some]
 by_cases h : n ≤ -1000000000000000000 ∨ 1000000000000000000 ≤ n
 ·rw [if_pos (by simpa using h)]
  unfold zq
  simp
  omega
 ·rw [if_neg (by simpa using h),jh (n := 0 + 1),e (0 + 1),if_pos (by simp)]
  have g2 : qi [n,m] (0 + 1) = some m := rfl
  rw [g2]
  simp only [Option.bind_eq_bind,Option.bind_some]
  by_cases h2 : m ≤ -1000000000000000000 ∨ 1000000000000000000 ≤ m
  ·rw [if_pos (by simpa using h2)]
   unfold zq
   simp
   omega
  ·rw [if_neg (by simpa using h2),jh (n := 0 + 1 + 1),e (0 + 1 + 1),if_neg (by simp)]
   unfold zq
   simp
   omega
end Go.Proofs.YtlapkkdodjhgpaaGreatDoor
