/-
  Scripts: parts and texts behind blanks; lists of edits and of selections.
-/
import Derived.Test.YtaglodpkpggdiaaGreatDoorLat
set_option linter.unusedSimpArgs false
set_option linter.unusedVariables false
namespace Go.Proofs.YtaglodpkpggdiaaGreatDoor
open Go Go.Gm
def zu (L : Bytes) (k : Nat) : Option (Int × Nat) := if L[k]? = some 32 then j6 L (k + 1) else none
def wo (L : Bytes) (k : Nat) : Option (Bytes × Nat) :=
 match j6 L k with
 | none => none
 | some (n,j) => if L[j]? = some 58 ∧ 0 ≤ n ∧ n ≤ (L.length : Int) - ((j + 1 : Nat) : Int) then some ((L.drop (j + 1)).take n.toNat,j + 1 + n.toNat) else none
def j4 (L : Bytes) (k : Nat) : Option (Bytes × Nat) := if L[k]? = some 32 then wo L (k + 1) else none
theorem at_lt {α : Type} {L : List α} {k : Nat} {c : α} (h : L[k]? = some c) : k < L.length := by
 rcases Nat.lt_or_ge k L.length with h1 | h1
 ·exact h1
 ·rw [List.getElem?_eq_none h1] at h; cases h
theorem uq {L : Bytes} {k j : Nat} {m : Int} (h : zu L k = some (m,j)) : j ≤ L.length ∧ k + 1 < j := by
 unfold zu at h
 split at h
 ·rename_i h1
  have := at_lt h1
  exact q82 (by omega) h
 ·cases h
theorem qez {L : Bytes} {k j : Nat} {m : Bytes} (hk : k ≤ L.length) (h : wo L k = some (m,j)) : j ≤ L.length ∧ k < j := by
 unfold wo at h
 split at h
 ·cases h
 ·rename_i n i h1
  have := q82 hk h1
  split at h
  ·rename_i h2
   cases h
   omega
  ·cases h
theorem q58 {L : Bytes} {k j : Nat} {m : Bytes} (h : j4 L k = some (m,j)) : j ≤ L.length ∧ k + 1 < j := by
 unfold j4 at h
 split at h
 ·rename_i h1
  have := at_lt h1
  exact qez (by omega) h
 ·cases h
def Ans {α : Type} (b : Sl UInt8) (ok : Bool) (s : Option (α × Nat)) (x : Option (α × T.qc)) : Prop :=
 ∃ v j ok',x = some (v,PR b j ok') ∧ j ≤ b.l.length ∧ (ok' = true → ok = true ∧ s = some (v,j)) ∧ (ok = true → s ≠ none → ok' = true)
theorem qbp (b : Sl UInt8) (k : Nat) (ok : Bool) (hb : b.l.length ≤ 65536) (hk : k ≤ b.l.length) :
  ∃ j,q4p (PR b k ok) = some (PR b j (ok && decide (b.l[k]? = some 32))) ∧ j ≤ b.l.length ∧ (ok = true → b.l[k]? = some 32 → j = k + 1) := by
 unfold q4p
 cases ok with
 | false =>
  exact ⟨k,rfl,hk,by simp⟩
 | true =>
  rw [if_pos (show (PR b k true).ok_ = true from rfl),q4a b k true 32 hb hk]
  refine ⟨if b.l[k]? = some 32 then k + 1 else k,rfl, ?_,fun _ h => if_pos h⟩
  split
  ·exact at_lt (by assumption)
  ·exact hk
theorem q3r (b : Sl UInt8) (k : Nat) (ok : Bool) (hb : b.l.length ≤ 65536) (hk : k ≤ b.l.length) :
  Ans b ok (zu b.l k) (pz (PR b k ok)) := by
 unfold pz
 obtain ⟨j,h1,h2,h3⟩ := qbp b k ok hb hk
 rw [h1]
 simp only [Option.bind_eq_bind,Option.bind_some]
 have hn := qgf b j (ok && decide (b.l[k]? = some 32)) hb h2
 cases hs : j6 b.l j with
 | none =>
  obtain ⟨n,i,e1,e2⟩ := hn.2 hs
  rw [e1]
  simp only [Option.bind_some]
  refine ⟨n,i,false, ?_,e2,by simp,fun hok hne => ?_⟩
  ·split <;> rfl
  ·subst hok
   exfalso
   apply hne
   unfold zu
   split
   ·rename_i hc
    rw [h3 rfl hc] at hs
    exact hs
   ·rfl
 | some mj =>
  obtain ⟨m,i⟩ := mj
  rw [hn.1 m i hs]
  simp only [Option.bind_some]
  have hle := q82 h2 hs
  refine ⟨m,i,ok && decide (b.l[k]? = some 32), ?_,hle.1,fun h => ?_,fun hok hne => ?_⟩
  ·have e : (PR b i (ok && decide (b.l[k]? = some 32))).ok_ = (ok && decide (b.l[k]? = some 32)) := rfl
   rw [e]
   cases (ok && decide (b.l[k]? = some 32)) <;> rfl
  ·simp only [Bool.and_eq_true,decide_eq_true_eq] at h
   refine ⟨h.1, ?_⟩
   unfold zu
   rw [if_pos h.2,← h3 h.1 h.2]
   exact hs
  ·subst hok
   unfold zu at hne
   split at hne
   ·rename_i hc
    simp [hc]
   ·exact absurd rfl hne
theorem z4f (b : Sl UInt8) (k : Nat) (ok : Bool) (hb : b.l.length ≤ 65536) (hk : k ≤ b.l.length) :
  (∀ t j,wo b.l k = some (t,j) → q61 (PR b k ok) = some (t,true,PR b j ok)) ∧
  (wo b.l k = none → ∃ t j,q61 (PR b k ok) = some (t,false,PR b j ok) ∧ j ≤ b.l.length) := by
 unfold q61
 have hn := qgf b k ok hb hk
 cases hs : j6 b.l k with
 | none =>
  obtain ⟨n,i,e1,e2⟩ := hn.2 hs
  rw [e1]
  have ht : wo b.l k = none := by unfold wo; rw [hs]
  exact ⟨fun t j e => by (rw [ht] at e; cases e),fun _ => ⟨_,i,rfl,e2⟩⟩
 | some mj =>
  obtain ⟨n,i⟩ := mj
  have hle := q82 hk hs
  rw [hn.1 n i hs]
  simp only [Option.bind_eq_bind,Option.bind_some,Bool.not_true,Bool.false_eq_true,if_false]
  rw [q4a b i ok 58 hb hle.1]
  simp only [Option.bind_some]
  by_cases hc : b.l[i]? = some 58
  ·have hi := at_lt hc
   rw [if_pos hc]
   have ea : (PR b (i + 1) ok).place.at_ = ((i + 1 : Nat) : Int) := rfl
   have eb : (PR b (i + 1) ok).place.b = b := rfl
   rw [ea,eb,xn (n := (b.l.length : Int) - ((i + 1 : Nat) : Int))]
   by_cases hg : 0 ≤ n ∧ n ≤ (b.l.length : Int) - ((i + 1 : Nat) : Int)
   ·rw [if_neg (by simp only [hc,decide_true,Bool.not_true,Bool.false_or,Bool.or_eq_true,decide_eq_true_eq]; omega)]
    rw [xn (n := ((i + 1 : Nat) : Int) + n),xn]
    have ht : wo b.l k = some ((b.l.drop (i + 1)).take n.toNat,i + 1 + n.toNat) := by
     unfold wo
     rw [hs]
     exact if_pos ⟨hc,hg⟩
    refine ⟨fun t j e => ?_,fun e => by (rw [ht] at e; cases e)⟩
    rw [ht] at e
    cases e
    have e3 : ((i + 1 : Nat) : Int) + n = ((i + 1 + n.toNat : Nat) : Int) := by omega
    rw [show ((i + 1 : Nat) : Int) + n - n = ((i + 1 : Nat) : Int) by omega,e3]
    unfold ji
    rw [if_pos ⟨⟨by omega,by omega⟩,by omega,by omega⟩]
    simp only [Option.bind_some,Int.toNat_natCast]
    rw [List.drop_take,show i + 1 + n.toNat - (i + 1) = n.toNat by omega]
    rfl
   ·rw [if_pos (by simp only [hc,decide_true,Bool.not_true,Bool.false_or,Bool.or_eq_true,decide_eq_true_eq]; omega)]
    have ht : wo b.l k = none := by
     unfold wo
     rw [hs]
     exact if_neg (fun h => hg h.2)
    exact ⟨fun t j e => by (rw [ht] at e; cases e),fun _ => ⟨_,_,rfl,by omega⟩⟩
  ·rw [if_neg hc,if_pos (by simp [hc])]
   have ht : wo b.l k = none := by
    unfold wo
    rw [hs]
    exact if_neg (fun h => hc h.1)
   exact ⟨fun t j e => by (rw [ht] at e; cases e),fun _ => ⟨_,_,rfl,hle.1⟩⟩
theorem q6l (b : Sl UInt8) (k : Nat) (ok : Bool) (hb : b.l.length ≤ 65536) (hk : k ≤ b.l.length) :
  Ans b ok (j4 b.l k) (q20 (PR b k ok)) := by
 unfold q20
 obtain ⟨j,h1,h2,h3⟩ := qbp b k ok hb hk
 rw [h1]
 simp only [Option.bind_eq_bind,Option.bind_some]
 have hn := z4f b j (ok && decide (b.l[k]? = some 32)) hb h2
 cases hs : wo b.l j with
 | none =>
  obtain ⟨n,i,e1,e2⟩ := hn.2 hs
  rw [e1]
  simp only [Option.bind_some]
  refine ⟨n,i,false, ?_,e2,by simp,fun hok hne => ?_⟩
  ·split <;> rfl
  ·subst hok
   exfalso
   apply hne
   unfold j4
   split
   ·rename_i hc
    rw [h3 rfl hc] at hs
    exact hs
   ·rfl
 | some mj =>
  obtain ⟨m,i⟩ := mj
  rw [hn.1 m i hs]
  simp only [Option.bind_some]
  have hle := qez h2 hs
  refine ⟨m,i,ok && decide (b.l[k]? = some 32), ?_,hle.1,fun h => ?_,fun hok hne => ?_⟩
  ·have e : (PR b i (ok && decide (b.l[k]? = some 32))).ok_ = (ok && decide (b.l[k]? = some 32)) := rfl
   rw [e]
   cases (ok && decide (b.l[k]? = some 32)) <;> rfl
  ·simp only [Bool.and_eq_true,decide_eq_true_eq] at h
   refine ⟨h.1, ?_⟩
   unfold j4
   rw [if_pos h.2,← h3 h.1 h.2]
   exact hs
  ·subst hok
   unfold j4 at hne
   split at hne
   ·rename_i hc
    simp [hc]
   ·exact absurd rfl hne
end Go.Proofs.YtaglodpkpggdiaaGreatDoor
