/-
  Variables that are set: the program's are the document's.
-/
import Derived.Test.YtllckneefjgafaaGreatDoorVah
import Derived.Test.YtllckneefjgafaaGreatDoorVal
set_option linter.unusedSimpArgs false
set_option linter.unusedVariables false
namespace Go.Proofs.YtllckneefjgafaaGreatDoor
open Go Go.Gm
theorem qc9 {α : Type} {l : List α} {k : Nat} (h : k < l.length) : ze l (k : Int) = some l[k] := by
 unfold ze
 rw [if_pos (by omega)]
 simp [h]
theorem q8n {α : Type} {xs : List α} {k : Nat} (h : xs.drop k = []) : ¬ ((k : Int) < (xs.length : Int)) := by
 have : xs.length ≤ k := by simpa using h
 omega
theorem q95 {α : Type} {xs r : List α} {x : α} {k : Nat} (h : xs.drop k = x :: r) : (k : Int) < (xs.length : Int) ∧ ze xs (k : Int) = some x ∧ xs.drop (k + 1) = r ∧ x ∈ xs := by
 have h3 : k < xs.length := by
  rcases Nat.lt_or_ge k xs.length with c | c
  ·exact c
  ·rw [List.drop_of_length_le c] at h
   cases h
 rw [List.drop_eq_getElem_cons h3] at h
 cases h
 exact ⟨by omega,qc9 h3,rfl,List.getElem_mem h3⟩
theorem wrS {α : Type} {xs : List α} {k : Nat} (hl : xs.length ≤ 9223372036854775807) (h : (k : Int) < (xs.length : Int)) : IntKind.i64.wrap ((k : Int) + 1) = ((k + 1 : Nat) : Int) := qr1 (by omega)
def lr (c : Bool) : Bool ⊕ Unit := if c then .inr () else .inl false
theorem ze5 (b : UInt8) : ∃ c,q3v b = some c ∧ (c = true ↔ (97 ≤ b.toNat ∧ b.toNat ≤ 122) ∨ (65 ≤ b.toNat ∧ b.toNat ≤ 90) ∨ (48 ≤ b.toNat ∧ b.toNat ≤ 57) ∨ b.toNat = 95) := by
 unfold q3v
 split
 ·rename_i h
  refine ⟨true,rfl, ?_⟩
  simp only [Bool.or_eq_true,Bool.and_eq_true,decide_eq_true_eq] at h
  simp; omega
 ·rename_i h
  refine ⟨_,rfl, ?_⟩
  simp only [Bool.or_eq_true,Bool.and_eq_true,decide_eq_true_eq] at h
  simp; omega
theorem qnr (b : UInt8) : ∃ c,q3s b = some c ∧ (c = true ↔ (97 ≤ b.toNat ∧ b.toNat ≤ 122) ∨ (65 ≤ b.toNat ∧ b.toNat ≤ 90)) := by
 unfold q3s
 split
 ·rename_i h
  refine ⟨true,rfl, ?_⟩
  simp only [Bool.and_eq_true,decide_eq_true_eq] at h
  simp; omega
 ·rename_i h
  simp only [Bool.and_eq_true,decide_eq_true_eq] at h
  split
  ·rename_i h2
   refine ⟨_,rfl, ?_⟩
   simp only [decide_eq_true_eq] at h2 ⊢
   omega
  ·rename_i h2
   refine ⟨_,rfl, ?_⟩
   simp only [decide_eq_true_eq] at h2
   simp; omega
theorem z4k (b : UInt8) : ∃ c,q3g b = some c ∧ (c = true ↔ (48 ≤ b.toNat ∧ b.toNat ≤ 57)) := by
 unfold q3g
 split
 ·rename_i h
  refine ⟨_,rfl, ?_⟩
  simp only [decide_eq_true_eq] at h ⊢
  omega
 ·rename_i h
  refine ⟨_,rfl, ?_⟩
  simp only [decide_eq_true_eq] at h
  simp; omega
theorem zk7 (s : Bytes) (hl : s.length ≤ 1099511627776) : ∀ (r : Bytes) (k : Nat),s.drop k = r →
  ∃ c,q09 (s,(k : Int)) = some (lr c) ∧ ma (s,(k : Int)) = some (lr c) := by
 intro r
 induction r with
 | nil =>
  intro k hk
  have hn := q8n hk
  rw [q09.eq_1,ma.eq_1]
  exact ⟨true,by simp [hn,lr],by simp [hn,lr]⟩
 | cons b r ih =>
  intro k hk
  obtain ⟨a1,a2,a3,a4⟩ := q95 hk
  obtain ⟨c,c1,c2⟩ := ih (k + 1) a3
  obtain ⟨u,u1,u2⟩ := ze5 b
  obtain ⟨v,v1,v2⟩ := qnr b
  obtain ⟨w,w1,w2⟩ := z4k b
  rw [q09.eq_1,ma.eq_1]
  simp only [a1,decide_true,if_true,a2,Option.bind_eq_bind,Option.bind_some,wrS (by omega) a1,u1,v1,w1,c1,c2]
  cases v
  ·by_cases h95 : b.toNat = 95
   ·have hu : u = true := u2.2 (by omega)
    subst hu
    refine ⟨c, ?_, ?_⟩
    ·have : ¬ ((b.toNat : Int) ≤ 57) := by omega
     simp [this]
    ·simp [h95]
   ·have h95' : ¬ ((b.toNat : Int) = 95) := by omega
    by_cases hk0 : (k : Int) = 0
    ·refine ⟨false, ?_,by simp [h95',hk0,lr]⟩
     cases u
     ·simp [lr]
     ·have h1 := u2.1 rfl
      have h2 : ¬ (97 ≤ b.toNat ∧ b.toNat ≤ 122 ∨ 65 ≤ b.toNat ∧ b.toNat ≤ 90) := fun h => by simpa using v2.2 h
      have : (b.toNat : Int) ≤ 57 := by omega
      simp [hk0,this,lr]
    ·cases w
     ·have : u = false := by
       cases u
       ·rfl
       ·have h1 := u2.1 rfl
        have h2 : ¬ (97 ≤ b.toNat ∧ b.toNat ≤ 122 ∨ 65 ≤ b.toNat ∧ b.toNat ≤ 90) := fun h => by simpa using v2.2 h
        have h3 : ¬ (48 ≤ b.toNat ∧ b.toNat ≤ 57) := fun h => by simpa using w2.2 h
        omega
      subst this
      exact ⟨false,by simp [lr],by simp [h95',hk0,lr]⟩
     ·have hu : u = true := u2.2 (by have := w2.1 rfl; omega)
      subst hu
      have hk1 : ¬ k = 0 := by omega
      exact ⟨c,by simp [hk1],by simp [h95',hk1]⟩
  ·have hu : u = true := u2.2 (by have := v2.1 rfl; omega)
   subst hu
   refine ⟨c, ?_,by simp⟩
   have h1 := v2.1 rfl
   have : ¬ ((b.toNat : Int) ≤ 57) := by omega
   simp [this]
theorem zte (s : Bytes) (hl : s.length ≤ 1099511627776) : ∃ c,q3x s = some c ∧ q3n s = some c := by
 obtain ⟨c,c1,c2⟩ := zk7 s hl s 0 rfl
 rw [show ((0 : Nat) : Int) = 0 from rfl] at c1 c2
 unfold q3x q3n
 rw [c1,c2]
 cases s with
 | nil => exact ⟨false,by cases c <;> rfl,rfl⟩
 | cons b r =>
  by_cases h : ((b :: r).length : Int) ≤ 64
  ·refine ⟨c, ?_, ?_⟩
   ·cases c <;> simp [lr]; simpa using h
   ·rw [if_neg (by simp at h ⊢; omega)]
    cases c <;> rfl
  ·refine ⟨false, ?_, ?_⟩
   ·cases c <;> simp [lr]; simp at h; omega
   ·rw [if_pos (by simp at h ⊢; omega)]
def pU : T.qd := ⟨[85],[117]⟩
inductive q5r (name value : Bytes) : Sl T.qd × Int → Prop
 | bad : q5r name value (⟨true,[]⟩,2)
 | one : q5r name value (⟨false,[⟨[85],value⟩]⟩,0)
 | two : q5r name value (⟨false,[⟨[85],[117]⟩,⟨name,value⟩]⟩,0)
theorem idx_eq (name : Bytes) : q3q [pU] name = some (if (pU.name == name) = true then 0 else -1) := by
 unfold q3q
 rw [q2c.eq_1]
 simp only [List.length_singleton,Int.cast_ofNat_Int]
 rw [if_pos (by decide),show ze [pU] 0 = some pU from rfl]
 simp only [Option.bind_eq_bind,Option.bind_some,q47]
 by_cases h : (pU.name == name) = true
 ·rw [if_pos h,if_pos h]
  rfl
 ·rw [if_neg h,if_neg h,q2c.eq_1,if_neg (by decide)]
  rfl
theorem zan (name value : Bytes) : q1l (name,value,0,[pU]) = some (if (pU.name == name) = true then .inl (0,[⟨[85],value⟩]) else .inr ()) := by
 rw [q1l.eq_1,if_pos (by decide),show ze [pU] 0 = some pU from rfl]
 simp only [Option.bind_eq_bind,Option.bind_some]
 cases h : (pU.name == name) with
 | true => rfl
 | false =>
  simp only [Bool.false_eq_true,if_false]
  rw [q1l.eq_1,if_neg (by decide)]
theorem qzs (name value : Bytes) (hn : name.length ≤ 40) (hv : value.length ≤ 40) : ∃ r,nu name value ⟨false,[pU]⟩ = some r ∧ q2b name value ⟨false,[pU]⟩ = some r ∧ q5r name value r := by
 obtain ⟨c,c1,c2⟩ := zte name (by omega)
 unfold nu q2b
 rw [c1,c2]
 simp only [Option.bind_eq_bind,Option.bind_some]
 cases c with
 | false => exact ⟨_,rfl,rfl,.bad⟩
 | true =>
  rw [if_neg (by simp),if_neg (by simp; omega),if_neg (by simp),if_neg (by simp; omega)]
  simp only [q61,Bool.false_eq_true,if_false,List.length_singleton]
  rw [if_pos (by decide),if_pos (by decide)]
  simp only [Option.bind_some,idx_eq,zan]
  cases h : (pU.name == name) with
  | true =>
   simp only [if_true]
   rw [if_pos (by decide),show ze [pU] 0 = some pU from rfl]
   exact ⟨_,rfl,rfl,.one⟩
  | false =>
   simp only [Bool.false_eq_true,if_false]
   rw [if_neg (by decide),if_neg (by decide),if_pos (by decide)]
   rw [if_neg (by decide),if_pos (by decide)]
   exact ⟨_,rfl,rfl,.two⟩
theorem zd2 (l : List T.qd) (n : Bool) (hl : l.length ≤ 9223372036854775807) : ∀ (r : List T.qd) (k : Nat),l.drop k = r → q1c (⟨n,l⟩,(k : Int),l) = some (.inr ()) := by
 intro r
 induction r with
 | nil =>
  intro k hk
  rw [q1c.eq_1,if_neg (by simpa using q8n hk)]
 | cons x r ih =>
  intro k hk
  obtain ⟨a1,a2,a3,a4⟩ := q95 hk
  rw [q1c.eq_1,if_pos (by simpa using a1),a2,wrS hl a1]
  simp only [Option.bind_eq_bind,Option.bind_some]
  rw [if_neg (by simp)]
  exact ih (k + 1) a3
theorem qca (l : List T.qd) (n : Bool) (hl : l.length ≤ 9223372036854775807) : q5g ⟨n,l⟩ l = some true := by
 unfold q5g
 rw [if_neg (by simp)]
 have := zd2 l n hl l 0 rfl
 rw [show ((0 : Nat) : Int) = 0 from rfl] at this
 rw [this]
 rfl
end Go.Proofs.YtllckneefjgafaaGreatDoor
