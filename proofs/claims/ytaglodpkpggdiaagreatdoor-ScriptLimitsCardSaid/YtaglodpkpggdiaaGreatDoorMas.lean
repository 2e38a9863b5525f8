/-
  Scripts: what a number, a word and a text read as; the program's reader and the document's read these so.
-/
import Derived.Test.YtaglodpkpggdiaaGreatDoorMah
import Derived.Test.YtaglodpkpggdiaaGreatDoorMao
import Derived.Test.YtaglodpkpggdiaaGreatDoorMaq
set_option linter.unusedSimpArgs false
set_option linter.unusedVariables false
namespace Go.Proofs.YtaglodpkpggdiaaGreatDoor
open Go Go.Gm
def PR (b : Sl UInt8) (k : Nat) (ok : Bool) : T.qb := ⟨⟨b,(k : Int)⟩,ok⟩
def j5 (c : UInt8) : Bool := decide (48 ≤ c.toNat) && decide (c.toNat ≤ 57)
def bn (c : UInt8) : Bool := decide (97 ≤ c.toNat) && decide (c.toNat ≤ 122)
def val (n : Int) : Bytes → Int
 | [] => n
 | c :: r => val (10 * n + ((c.toNat : Int) - 48)) r
def zm (L : Bytes) (k : Nat) : Bytes := (L.drop k).takeWhile j5
def w9 (L : Bytes) (k : Nat) : Bool := decide (L[k]? = some 45)
def behind (L : Bytes) (k : Nat) : Nat := if w9 L k then k + 1 else k
def kv (L : Bytes) (k : Nat) : Option (Int × Nat) :=
 if (zm L (behind L k)).length = 0 ∨ 18 < (zm L (behind L k)).length then none
 else if L[behind L k]? = some 48 ∧ (w9 L k = true ∨ 1 < (zm L (behind L k)).length) then none
 else some (if w9 L k then 0 - val 0 (zm L (behind L k)) else val 0 (zm L (behind L k)),behind L k + (zm L (behind L k)).length)
theorem qbd {x c : UInt8} : ((x.toNat : Int) = (c.toNat : Int)) ↔ x = c := by
 constructor
 ·intro h
  apply UInt8.toNat_inj.mp
  omega
 ·intro h
  rw [h]
theorem qm3 {p : UInt8 → Bool} (L : Bytes) (k : Nat) : (L.take (k + ((L.drop k).takeWhile p).length)).drop k = (L.drop k).takeWhile p := by
 rw [List.drop_take]
 rw [show k + ((L.drop k).takeWhile p).length - k = ((L.drop k).takeWhile p).length by omega]
 exact (List.prefix_iff_eq_take.mp (List.takeWhile_prefix p)).symm
theorem qa3 {p : UInt8 → Bool} (L : Bytes) (k : Nat) (hk : k ≤ L.length) : k + ((L.drop k).takeWhile p).length ≤ L.length := by
 have h := (List.takeWhile_prefix (l := L.drop k) p).length_le
 simp at h
 omega
theorem q46 (b : Sl UInt8) (k : Nat) (ok : Bool) (c : UInt8) (hb : b.l.length ≤ 65536) (hk : k ≤ b.l.length) :
  je c (PR b k ok) = some (decide (b.l[k]? = some c),PR b (if b.l[k]? = some c then k + 1 else k) ok) := by
 unfold je PR
 simp only
 cases hr : b.l.drop k with
 | nil =>
  obtain ⟨h1,h2⟩ := drop_nil hr hk
  rw [if_pos (by simp; omega),h2]
  simp
 | cons x r =>
  obtain ⟨h1,h2,h3,h4⟩ := drop_cons hr
  rw [if_neg (by simp; omega),h1,h2]
  simp only [Option.bind_eq_bind,Option.bind_some,Option.some.injEq,bne_iff_ne,ne_eq,qbd]
  by_cases hx : x = c
  ·rw [if_neg (by simp [hx])]
   simp [hx]
   exact uf (by omega)
  ·rw [if_pos hx]
   simp [hx]
theorem q4y (b : Sl UInt8) (k : Nat) (ok : Bool) (hk : k ≤ b.l.length) :
  q4r (PR b k ok) = some (ok && decide (b.l[k]? = some 32)) := by
 unfold q4r PR
 simp only
 cases hr : b.l.drop k with
 | nil =>
  obtain ⟨h1,h2⟩ := drop_nil hr hk
  rw [if_neg (by simp; omega),h2]
  simp
 | cons x r =>
  obtain ⟨h1,h2,h3,h4⟩ := drop_cons hr
  cases ok with
  | false => simp
  | true =>
   rw [if_pos (by simp; omega),h1,h2]
   simp only [Option.bind_eq_bind,Option.bind_some,Option.some.injEq,Bool.true_and]
   rw [Bool.eq_iff_iff]
   simp only [beq_iff_eq,decide_eq_true_eq]
   exact qbd (c := 32)
theorem qcs (b : Sl UInt8) (ok : Bool) (f : Int) (hb : b.l.length ≤ 65536) : ∀ (r : Bytes) (k : Nat),b.l.drop k = r → k ≤ b.l.length →
  q27 (f,PR b k ok) = some (PR b (k + (r.takeWhile bn).length) ok)
 | [],k,hr,hk => by
  obtain ⟨h1,h2⟩ := drop_nil hr hk
  rw [q27.eq_1]
  unfold PR
  simp only
  rw [if_neg (by simp; omega)]
  simp
 | x :: r,k,hr,hk => by
  obtain ⟨h1,h2,h3,h4⟩ := drop_cons hr
  rw [q27.eq_1]
  unfold PR
  simp only
  rw [if_pos (by simp; omega),h1]
  simp only [Option.bind_eq_bind,Option.bind_some]
  by_cases hx : bn x = true
  ·have hx' := hx
   unfold bn at hx'
   simp only [Bool.and_eq_true,decide_eq_true_eq] at hx'
   rw [if_pos (by simp; omega),if_pos (by simp; omega),uf (by omega)]
   have ih := qcs b ok f hb r (k + 1) h4 (by omega)
   unfold PR at ih
   rw [ih,List.takeWhile_cons_of_pos hx]
   simp only [List.length_cons]
   rw [show k + 1 + (r.takeWhile bn).length = k + ((r.takeWhile bn).length + 1) by omega]
  ·have hx' := hx
   unfold bn at hx'
   simp only [Bool.and_eq_true,decide_eq_true_eq] at hx'
   rw [List.takeWhile_cons_of_neg hx]
   simp only [List.length_nil,Nat.add_zero]
   split
   ·rw [if_neg (by rename_i h; simp at h ⊢; omega)]
   ·rfl
def yg (L : Bytes) (k : Nat) : Bytes × Nat := ((L.drop k).takeWhile bn,k + ((L.drop k).takeWhile bn).length)
theorem qd5 (L : Bytes) (k : Nat) (hk : k ≤ L.length) : (yg L k).2 ≤ L.length := qa3 L k hk
theorem qf1 (b : Sl UInt8) (k : Nat) (ok : Bool) (hb : b.l.length ≤ 65536) (hk : k ≤ b.l.length) :
  q5h (PR b k ok) = some ((yg b.l k).1,PR b (yg b.l k).2 ok) := by
 unfold q5h
 have h := qcs b ok (k : Int) hb (b.l.drop k) k rfl hk
 show (q27 ((k : Int),PR b k ok) >>= _) = _
 rw [h]
 simp only [Option.bind_eq_bind,Option.bind_some]
 unfold PR
 simp only
 have hl := qa3 (p := bn) b.l k hk
 unfold jg
 rw [if_pos ⟨⟨by omega,by omega⟩,by omega,by omega⟩]
 simp only [Option.bind_some,Int.toNat_natCast]
 unfold yg
 rw [qm3]
theorem q4u {c : UInt8} : j5 c = true ↔ 48 ≤ c.toNat ∧ c.toNat ≤ 57 := by
 unfold j5
 simp
theorem qbl (i : Nat) : (10 : Int) ^ (i + 1) = 10 * 10 ^ i := by rw [Int.pow_succ]; omega
theorem qfl {i : Nat} (h : i ≤ 18) : (10 : Int) ^ i ≤ 1000000000000000000 := by
 have : (10 : Nat) ^ i ≤ 10 ^ 18 := Nat.pow_le_pow_right (by omega) h
 have h2 : ((10 ^ i : Nat) : Int) ≤ ((10 ^ 18 : Nat) : Int) := by exact_mod_cast this
 simpa using h2
theorem qgt : ∀ (ds : Bytes) (n : Int) (i : Nat),(∀ c ∈ ds,j5 c = true) → 0 ≤ n → n < 10 ^ i → 0 ≤ val n ds ∧ val n ds < 10 ^ (i + ds.length)
 | [],n,i,_,h0,h1 => ⟨h0,h1⟩
 | c :: r,n,i,hd,h0,h1 => by
  have hc := q4u.mp (hd c (by simp))
  have h := qgt r (10 * n + ((c.toNat : Int) - 48)) (i + 1) (fun x hx => hd x (by simp [hx])) (by omega) (by rw [qbl]; omega)
  rw [List.length_cons,show i + (r.length + 1) = i + 1 + r.length by omega]
  exact h
theorem qdt (p : UInt8 → Bool) : ∀ (l : Bytes),∀ c ∈ l.takeWhile p,p c = true
 | [],c,h => by simp at h
 | x :: r,c,h => by
  by_cases hx : p x = true
  ·rw [List.takeWhile_cons_of_pos hx] at h
   rcases List.mem_cons.mp h with h | h
   ·rw [h]; exact hx
   ·exact qdt p r c h
  ·rw [List.takeWhile_cons_of_neg hx] at h
   simp at h
theorem qv6 {n : Int} {c : UInt8} {i : Nat} (hc : j5 c = true) (h0 : 0 ≤ n) (h1 : n < 10 ^ i) (hi : i < 18) :
  (IntKind.i64.wrap ((IntKind.i64.wrap ((10 : Int) * n)) + (IntKind.i64.wrap (IntKind.u8.wrap ((c.toNat : Int) - (48 : Int)))))) = 10 * n + ((c.toNat : Int) - 48) := by
 have hc' := q4u.mp hc
 have h2 := qfl (i := i + 1) (by omega)
 rw [qbl] at h2
 rw [qbo (by omega) (by omega),jl (n := (c.toNat : Int) - 48),jl (n := 10 * n),jl]
theorem qfb (b : Sl UInt8) (ok below : Bool) (f : Nat) (hb : b.l.length ≤ 65536) : ∀ (r : Bytes) (k : Nat) (n : Int) (i : Nat),b.l.drop k = r → k ≤ b.l.length → k = f + i → i ≤ 18 → 0 ≤ n → n < 10 ^ i →
  (i + (r.takeWhile j5).length ≤ 18 → q25 (below,(f : Int),n,PR b k ok) = some (.inr (val n (r.takeWhile j5),PR b (k + (r.takeWhile j5).length) ok))) ∧
  (18 < i + (r.takeWhile j5).length → ∃ n',q25 (below,(f : Int),n,PR b k ok) = some (.inl (0,false,n',PR b (f + 18) ok)))
 | [],k,n,i,hr,hk,hf,hi,h0,h1 => by
  obtain ⟨g1,g2⟩ := drop_nil hr hk
  refine ⟨fun _ => ?_,fun h => by simp at h; omega⟩
  rw [q25.eq_1]
  unfold PR
  simp only
  rw [if_neg (by simp; omega)]
  simp [val]
 | x :: r,k,n,i,hr,hk,hf,hi,h0,h1 => by
  obtain ⟨g1,g2,g3,g4⟩ := drop_cons hr
  rw [q25.eq_1]
  unfold PR
  simp only
  rw [if_pos (by simp; omega),g1]
  simp only [Option.bind_eq_bind,Option.bind_some]
  by_cases hx : j5 x = true
  ·have hx' := q4u.mp hx
   rw [if_pos (by simp; omega),if_pos (by simp; omega),uf (by omega),jl (n := (k : Int) - (f : Int)),List.takeWhile_cons_of_pos hx]
   by_cases hi18 : i = 18
   ·refine ⟨fun h => by simp at h; omega,fun _ => ⟨n, ?_⟩⟩
    rw [if_pos (by simp; omega)]
    rw [hf,hi18]
   ·rw [if_neg (by simp; omega),qv6 hx h0 h1 (by omega)]
    have ih := qfb b ok below f hb r (k + 1) (10 * n + ((x.toNat : Int) - 48)) (i + 1) g4 (by omega) (by omega) (by omega) (by omega) (by rw [qbl]; omega)
    unfold PR at ih
    refine ⟨fun h => ?_,fun h => ih.2 (by simp at h; omega)⟩
    rw [ih.1 (by simp at h; omega)]
    simp only [List.length_cons,val]
    rw [show k + 1 + (r.takeWhile j5).length = k + ((r.takeWhile j5).length + 1) by omega]
  ·have hx' := hx
   rw [q4u] at hx'
   rw [List.takeWhile_cons_of_neg hx]
   refine ⟨fun _ => ?_,fun h => by simp at h; omega⟩
   simp only [List.length_nil,Nat.add_zero,val]
   split
   ·rw [if_neg (by rename_i h; simp at h ⊢; omega)]
   ·rfl
end Go.Proofs.YtaglodpkpggdiaaGreatDoor
