/-
  Scripts: parts and texts behind blanks; lists of edits and of selections.
-/
import Derived.Test.YtaglodpkpggdiaaGreatDoorMat
set_option linter.unusedSimpArgs false
set_option linter.unusedVariables false
namespace Go.Proofs.YtaglodpkpggdiaaGreatDoor
open Go Go.Gm
def j4 (L : Bytes) (k : Nat) : Option (Int × Nat) := if L[k]? = some 32 then kv L (k + 1) else none
def yz (L : Bytes) (k : Nat) : Option (Bytes × Nat) :=
 match kv L k with
 | none => none
 | some (n,j) => if L[j]? = some 58 ∧ 0 ≤ n ∧ n ≤ (L.length : Int) - ((j + 1 : Nat) : Int) then some ((L.drop (j + 1)).take n.toNat,j + 1 + n.toNat) else none
def wy (L : Bytes) (k : Nat) : Option (Bytes × Nat) := if L[k]? = some 32 then yz L (k + 1) else none
theorem at_lt {α : Type} {L : List α} {k : Nat} {c : α} (h : L[k]? = some c) : k < L.length := by
 rcases Nat.lt_or_ge k L.length with h1 | h1
 ·exact h1
 ·rw [List.getElem?_eq_none h1] at h; cases h
theorem q02 {L : Bytes} {k j : Nat} {m : Int} (h : j4 L k = some (m,j)) : j ≤ L.length ∧ k + 1 < j := by
 unfold j4 at h
 split at h
 ·rename_i h1
  have := at_lt h1
  exact q7n (by omega) h
 ·cases h
theorem qgj {L : Bytes} {k j : Nat} {m : Bytes} (hk : k ≤ L.length) (h : yz L k = some (m,j)) : j ≤ L.length ∧ k < j := by
 unfold yz at h
 split at h
 ·cases h
 ·rename_i n i h1
  have := q7n hk h1
  split at h
  ·rename_i h2
   cases h
   omega
  ·cases h
theorem q6u {L : Bytes} {k j : Nat} {m : Bytes} (h : wy L k = some (m,j)) : j ≤ L.length ∧ k + 1 < j := by
 unfold wy at h
 split at h
 ·rename_i h1
  have := at_lt h1
  exact qgj (by omega) h
 ·cases h
def Ans {α : Type} (b : Sl UInt8) (ok : Bool) (s : Option (α × Nat)) (x : Option (α × T.qb)) : Prop :=
 ∃ v j ok',x = some (v,PR b j ok') ∧ j ≤ b.l.length ∧ (ok' = true → ok = true ∧ s = some (v,j)) ∧ (ok = true → s ≠ none → ok' = true)
theorem qaw (b : Sl UInt8) (k : Nat) (ok : Bool) (hb : b.l.length ≤ 65536) (hk : k ≤ b.l.length) :
  ∃ j,q4d (PR b k ok) = some (PR b j (ok && decide (b.l[k]? = some 32))) ∧ j ≤ b.l.length ∧ (ok = true → b.l[k]? = some 32 → j = k + 1) := by
 unfold q4d
 cases ok with
 | false =>
  exact ⟨k,rfl,hk,by simp⟩
 | true =>
  rw [if_pos (show (PR b k true).ok_ = true from rfl),q46 b k true 32 hb hk]
  refine ⟨if b.l[k]? = some 32 then k + 1 else k,rfl, ?_,fun _ h => if_pos h⟩
  split
  ·exact at_lt (by assumption)
  ·exact hk
theorem q2n (b : Sl UInt8) (k : Nat) (ok : Bool) (hb : b.l.length ≤ 65536) (hk : k ≤ b.l.length) :
  Ans b ok (j4 b.l k) (mg (PR b k ok)) := by
 unfold mg
 obtain ⟨j,h1,h2,h3⟩ := qaw b k ok hb hk
 rw [h1]
 simp only [Option.bind_eq_bind,Option.bind_some]
 have hn := qf7 b j (ok && decide (b.l[k]? = some 32)) hb h2
 cases hs : kv b.l j with
 | none =>
  obtain ⟨n,i,e1,e2⟩ := hn.2 hs
  rw [e1]
  simp only [Option.bind_some]
  refine ⟨n,i,false, ?_,e2,by simp,fun hok hne => ?_⟩
  ·split <;> rfl
  ·subst hok
   exfalso
   apply hne
   unfold j4
   split
   ·rename_i hc
    rw [h3 rfl hc] at hs
    exact hs
   ·rfl
 | some mj =>
  obtain ⟨m,i⟩ := mj
  rw [hn.1 m i hs]
  simp only [Option.bind_some]
  have hle := q7n h2 hs
  refine ⟨m,i,ok && decide (b.l[k]? = some 32), ?_,hle.1,fun h => ?_,fun hok hne => ?_⟩
  ·have e : (PR b i (ok && decide (b.l[k]? = some 32))).ok_ = (ok && decide (b.l[k]? = some 32)) := rfl
   rw [e]
   cases (ok && decide (b.l[k]? = some 32)) <;> rfl
  ·simp only [Bool.and_eq_true,decide_eq_true_eq] at h
   refine ⟨h.1, ?_⟩
   unfold j4
   rw [if_pos h.2,← h3 h.1 h.2]
   exact hs
  ·subst hok
   unfold j4 at hne
   split at hne
   ·rename_i hc
    simp [hc]
   ·exact absurd rfl hne
theorem zmx (b : Sl UInt8) (k : Nat) (ok : Bool) (hb : b.l.length ≤ 65536) (hk : k ≤ b.l.length) :
  (∀ t j,yz b.l k = some (t,j) → q5t (PR b k ok) = some (t,true,PR b j ok)) ∧
  (yz b.l k = none → ∃ t j,q5t (PR b k ok) = some (t,false,PR b j ok) ∧ j ≤ b.l.length) := by
 unfold q5t
 have hn := qf7 b k ok hb hk
 cases hs : kv b.l k with
 | none =>
  obtain ⟨n,i,e1,e2⟩ := hn.2 hs
  rw [e1]
  have ht : yz b.l k = none := by unfold yz; rw [hs]
  exact ⟨fun t j e => by (rw [ht] at e; cases e),fun _ => ⟨_,i,rfl,e2⟩⟩
 | some mj =>
  obtain ⟨n,i⟩ := mj
  have hle := q7n hk hs
  rw [hn.1 n i hs]
  simp only [Option.bind_eq_bind,Option.bind_some,Bool.not_true,Bool.false_eq_true,if_false]
  rw [q46 b i ok 58 hb hle.1]
  simp only [Option.bind_some]
  by_cases hc : b.l[i]? = some 58
  ·have hi := at_lt hc
   rw [if_pos hc]
   have ea : (PR b (i + 1) ok).place.at_ = ((i + 1 : Nat) : Int) := rfl
   have eb : (PR b (i + 1) ok).place.b = b := rfl
   rw [ea,eb,jl (n := (b.l.length : Int) - ((i + 1 : Nat) : Int))]
   by_cases hg : 0 ≤ n ∧ n ≤ (b.l.length : Int) - ((i + 1 : Nat) : Int)
   ·rw [if_neg (by simp only [hc,decide_true,Bool.not_true,Bool.false_or,Bool.or_eq_true,decide_eq_true_eq]; omega)]
    rw [jl (n := ((i + 1 : Nat) : Int) + n),jl]
    have ht : yz b.l k = some ((b.l.drop (i + 1)).take n.toNat,i + 1 + n.toNat) := by
     unfold yz
     rw [hs]
     exact if_pos ⟨hc,hg⟩
    refine ⟨fun t j e => ?_,fun e => by (rw [ht] at e; cases e)⟩
    rw [ht] at e
    cases e
    have e3 : ((i + 1 : Nat) : Int) + n = ((i + 1 + n.toNat : Nat) : Int) := by omega
    rw [show ((i + 1 : Nat) : Int) + n - n = ((i + 1 : Nat) : Int) by omega,e3]
    unfold jg
    rw [if_pos ⟨⟨by omega,by omega⟩,by omega,by omega⟩]
    simp only [Option.bind_some,Int.toNat_natCast]
    rw [List.drop_take,show i + 1 + n.toNat - (i + 1) = n.toNat by omega]
    rfl
   ·rw [if_pos (by simp only [hc,decide_true,Bool.not_true,Bool.false_or,Bool.or_eq_true,decide_eq_true_eq]; omega)]
    have ht : yz b.l k = none := by
     unfold yz
     rw [hs]
     exact if_neg (fun h => hg h.2)
    exact ⟨fun t j e => by (rw [ht] at e; cases e),fun _ => ⟨_,_,rfl,by omega⟩⟩
  ·rw [if_neg hc,if_pos (by simp [hc])]
   have ht : yz b.l k = none := by
    unfold yz
    rw [hs]
    exact if_neg (fun h => hc h.1)
   exact ⟨fun t j e => by (rw [ht] at e; cases e),fun _ => ⟨_,_,rfl,hle.1⟩⟩
theorem q6m (b : Sl UInt8) (k : Nat) (ok : Bool) (hb : b.l.length ≤ 65536) (hk : k ≤ b.l.length) :
  Ans b ok (wy b.l k) (q2a (PR b k ok)) := by
 unfold q2a
 obtain ⟨j,h1,h2,h3⟩ := qaw b k ok hb hk
 rw [h1]
 simp only [Option.bind_eq_bind,Option.bind_some]
 have hn := zmx b j (ok && decide (b.l[k]? = some 32)) hb h2
 cases hs : yz b.l j with
 | none =>
  obtain ⟨n,i,e1,e2⟩ := hn.2 hs
  rw [e1]
  simp only [Option.bind_some]
  refine ⟨n,i,false, ?_,e2,by simp,fun hok hne => ?_⟩
  ·split <;> rfl
  ·subst hok
   exfalso
   apply hne
   unfold wy
   split
   ·rename_i hc
    rw [h3 rfl hc] at hs
    exact hs
   ·rfl
 | some mj =>
  obtain ⟨m,i⟩ := mj
  rw [hn.1 m i hs]
  simp only [Option.bind_some]
  have hle := qgj h2 hs
  refine ⟨m,i,ok && decide (b.l[k]? = some 32), ?_,hle.1,fun h => ?_,fun hok hne => ?_⟩
  ·have e : (PR b i (ok && decide (b.l[k]? = some 32))).ok_ = (ok && decide (b.l[k]? = some 32)) := rfl
   rw [e]
   cases (ok && decide (b.l[k]? = some 32)) <;> rfl
  ·simp only [Bool.and_eq_true,decide_eq_true_eq] at h
   refine ⟨h.1, ?_⟩
   unfold wy
   rw [if_pos h.2,← h3 h.1 h.2]
   exact hs
  ·subst hok
   unfold wy at hne
   split at hne
   ·rename_i hc
    simp [hc]
   ·exact absurd rfl hne
end Go.Proofs.YtaglodpkpggdiaaGreatDoor
