/-
  Scripts: parts and texts behind blanks; lists of edits and of selections.
-/
import Derived.Test.YthikhbpbpphaaaaGreatDoorRan
set_option linter.unusedSimpArgs false
set_option linter.unusedVariables false
namespace Go.Proofs.YthikhbpbpphaaaaGreatDoor
open Go Go.Gm
def z8 (L : Bytes) (k : Nat) : Option (Int × Nat) := if L[k]? = some 32 then zl L (k + 1) else none
def wo (L : Bytes) (k : Nat) : Option (Bytes × Nat) :=
 match zl L k with
 | none => none
 | some (n,j) => if L[j]? = some 58 ∧ 0 ≤ n ∧ n ≤ (L.length : Int) - ((j + 1 : Nat) : Int) then some ((L.drop (j + 1)).take n.toNat,j + 1 + n.toNat) else none
def zu (L : Bytes) (k : Nat) : Option (Bytes × Nat) := if L[k]? = some 32 then wo L (k + 1) else none
theorem ym {α : Type} {L : List α} {k : Nat} {c : α} (h : L[k]? = some c) : k < L.length := by
 rcases Nat.lt_or_ge k L.length with h1 | h1
 ·exact h1
 ·rw [List.getElem?_eq_none h1] at h; cases h
theorem xe {L : Bytes} {k j : Nat} {m : Int} (h : z8 L k = some (m,j)) : j ≤ L.length ∧ k + 1 < j := by
 unfold z8 at h
 split at h
 ·rename_i h1
  have := ym h1
  exact q7b (by omega) h
 ·cases h
theorem qc7 {L : Bytes} {k j : Nat} {m : Bytes} (hk : k ≤ L.length) (h : wo L k = some (m,j)) : j ≤ L.length ∧ k < j := by
 unfold wo at h
 split at h
 ·cases h
 ·rename_i n i h1
  have := q7b hk h1
  split at h
  ·rename_i h2
   cases h
   omega
  ·cases h
theorem mo {L : Bytes} {k j : Nat} {m : Bytes} (h : zu L k = some (m,j)) : j ≤ L.length ∧ k + 1 < j := by
 unfold zu at h
 split at h
 ·rename_i h1
  have := ym h1
  exact qc7 (by omega) h
 ·cases h
def Ans {α : Type} (b : Sl UInt8) (ok : Bool) (s : Option (α × Nat)) (x : Option (α × T.qb)) : Prop :=
 ∃ v j ok',x = some (v,PR b j ok') ∧ j ≤ b.l.length ∧ (ok' = true → ok = true ∧ s = some (v,j)) ∧ (ok = true → s ≠ none → ok' = true)
theorem q9c (b : Sl UInt8) (k : Nat) (ok : Bool) (hb : b.l.length ≤ 65536) (hk : k ≤ b.l.length) :
  ∃ j,q3e (PR b k ok) = some (PR b j (ok && decide (b.l[k]? = some 32))) ∧ j ≤ b.l.length ∧ (ok = true → b.l[k]? = some 32 → j = k + 1) := by
 unfold q3e
 cases ok with
 | false =>
  exact ⟨k,rfl,hk,by simp⟩
 | true =>
  rw [if_pos (show (PR b k true).ok_ = true from rfl),q30 b k true 32 hb hk]
  refine ⟨if b.l[k]? = some 32 then k + 1 else k,rfl, ?_,fun _ h => if_pos h⟩
  split
  ·exact ym (by assumption)
  ·exact hk
theorem q2f (b : Sl UInt8) (k : Nat) (ok : Bool) (hb : b.l.length ≤ 65536) (hk : k ≤ b.l.length) :
  Ans b ok (z8 b.l k) (um (PR b k ok)) := by
 unfold um
 obtain ⟨j,h1,h2,h3⟩ := q9c b k ok hb hk
 rw [h1]
 simp only [Option.bind_eq_bind,Option.bind_some]
 have hn := qau b j (ok && decide (b.l[k]? = some 32)) hb h2
 cases hs : zl b.l j with
 | none =>
  obtain ⟨n,i,e1,e2⟩ := hn.2 hs
  rw [e1]
  simp only [Option.bind_some]
  refine ⟨n,i,false, ?_,e2,by simp,fun hok hne => ?_⟩
  ·split <;> rfl
  ·subst hok
   exfalso
   apply hne
   unfold z8
   split
   ·rename_i hc
    rw [h3 rfl hc] at hs
    exact hs
   ·rfl
 | some mj =>
  obtain ⟨m,i⟩ := mj
  rw [hn.1 m i hs]
  simp only [Option.bind_some]
  have hle := q7b h2 hs
  refine ⟨m,i,ok && decide (b.l[k]? = some 32), ?_,hle.1,fun h => ?_,fun hok hne => ?_⟩
  ·have e : (PR b i (ok && decide (b.l[k]? = some 32))).ok_ = (ok && decide (b.l[k]? = some 32)) := rfl
   rw [e]
   cases (ok && decide (b.l[k]? = some 32)) <;> rfl
  ·simp only [Bool.and_eq_true,decide_eq_true_eq] at h
   refine ⟨h.1, ?_⟩
   unfold z8
   rw [if_pos h.2,← h3 h.1 h.2]
   exact hs
  ·subst hok
   unfold z8 at hne
   split at hne
   ·rename_i hc
    simp [hc]
   ·exact absurd rfl hne
theorem z6m (b : Sl UInt8) (k : Nat) (ok : Bool) (hb : b.l.length ≤ 65536) (hk : k ≤ b.l.length) :
  (∀ t j,wo b.l k = some (t,j) → q4n (PR b k ok) = some (t,true,PR b j ok)) ∧
  (wo b.l k = none → ∃ t j,q4n (PR b k ok) = some (t,false,PR b j ok) ∧ j ≤ b.l.length) := by
 unfold q4n
 have hn := qau b k ok hb hk
 cases hs : zl b.l k with
 | none =>
  obtain ⟨n,i,e1,e2⟩ := hn.2 hs
  rw [e1]
  have ht : wo b.l k = none := by unfold wo; rw [hs]
  exact ⟨fun t j e => by (rw [ht] at e; cases e),fun _ => ⟨_,i,rfl,e2⟩⟩
 | some mj =>
  obtain ⟨n,i⟩ := mj
  have hle := q7b hk hs
  rw [hn.1 n i hs]
  simp only [Option.bind_eq_bind,Option.bind_some,Bool.not_true,Bool.false_eq_true,if_false]
  rw [q30 b i ok 58 hb hle.1]
  simp only [Option.bind_some]
  by_cases hc : b.l[i]? = some 58
  ·have hi := ym hc
   rw [if_pos hc]
   have ea : (PR b (i + 1) ok).place.at_ = ((i + 1 : Nat) : Int) := rfl
   have eb : (PR b (i + 1) ok).place.b = b := rfl
   rw [ea,eb,ug (n := (b.l.length : Int) - ((i + 1 : Nat) : Int))]
   by_cases hg : 0 ≤ n ∧ n ≤ (b.l.length : Int) - ((i + 1 : Nat) : Int)
   ·rw [if_neg (by simp only [hc,decide_true,Bool.not_true,Bool.false_or,Bool.or_eq_true,decide_eq_true_eq]; omega)]
    rw [ug (n := ((i + 1 : Nat) : Int) + n),ug]
    have ht : wo b.l k = some ((b.l.drop (i + 1)).take n.toNat,i + 1 + n.toNat) := by
     unfold wo
     rw [hs]
     exact if_pos ⟨hc,hg⟩
    refine ⟨fun t j e => ?_,fun e => by (rw [ht] at e; cases e)⟩
    rw [ht] at e
    cases e
    have e3 : ((i + 1 : Nat) : Int) + n = ((i + 1 + n.toNat : Nat) : Int) := by omega
    rw [show ((i + 1 : Nat) : Int) + n - n = ((i + 1 : Nat) : Int) by omega,e3]
    unfold xk
    rw [if_pos ⟨⟨by omega,by omega⟩,by omega,by omega⟩]
    simp only [Option.bind_some,Int.toNat_natCast]
    rw [List.drop_take,show i + 1 + n.toNat - (i + 1) = n.toNat by omega]
    rfl
   ·rw [if_pos (by simp only [hc,decide_true,Bool.not_true,Bool.false_or,Bool.or_eq_true,decide_eq_true_eq]; omega)]
    have ht : wo b.l k = none := by
     unfold wo
     rw [hs]
     exact if_neg (fun h => hg h.2)
    exact ⟨fun t j e => by (rw [ht] at e; cases e),fun _ => ⟨_,_,rfl,by omega⟩⟩
  ·rw [if_neg hc,if_pos (by simp [hc])]
   have ht : wo b.l k = none := by
    unfold wo
    rw [hs]
    exact if_neg (fun h => hc h.1)
   exact ⟨fun t j e => by (rw [ht] at e; cases e),fun _ => ⟨_,_,rfl,hle.1⟩⟩
theorem q50 (b : Sl UInt8) (k : Nat) (ok : Bool) (hb : b.l.length ≤ 65536) (hk : k ≤ b.l.length) :
  Ans b ok (zu b.l k) (q0j (PR b k ok)) := by
 unfold q0j
 obtain ⟨j,h1,h2,h3⟩ := q9c b k ok hb hk
 rw [h1]
 simp only [Option.bind_eq_bind,Option.bind_some]
 have hn := z6m b j (ok && decide (b.l[k]? = some 32)) hb h2
 cases hs : wo b.l j with
 | none =>
  obtain ⟨n,i,e1,e2⟩ := hn.2 hs
  rw [e1]
  simp only [Option.bind_some]
  refine ⟨n,i,false, ?_,e2,by simp,fun hok hne => ?_⟩
  ·split <;> rfl
  ·subst hok
   exfalso
   apply hne
   unfold zu
   split
   ·rename_i hc
    rw [h3 rfl hc] at hs
    exact hs
   ·rfl
 | some mj =>
  obtain ⟨m,i⟩ := mj
  rw [hn.1 m i hs]
  simp only [Option.bind_some]
  have hle := qc7 h2 hs
  refine ⟨m,i,ok && decide (b.l[k]? = some 32), ?_,hle.1,fun h => ?_,fun hok hne => ?_⟩
  ·have e : (PR b i (ok && decide (b.l[k]? = some 32))).ok_ = (ok && decide (b.l[k]? = some 32)) := rfl
   rw [e]
   cases (ok && decide (b.l[k]? = some 32)) <;> rfl
  ·simp only [Bool.and_eq_true,decide_eq_true_eq] at h
   refine ⟨h.1, ?_⟩
   unfold zu
   rw [if_pos h.2,← h3 h.1 h.2]
   exact hs
  ·subst hok
   unfold zu at hne
   split at hne
   ·rename_i hc
    simp [hc]
   ·exact absurd rfl hne
theorem tq (b : Sl UInt8) (k : Nat) (hb : b.l.length ≤ 65536) (hk : k ≤ b.l.length) :
  (∀ m j,z8 b.l k = some (m,j) → wh (RR b k) = some (m,true,RR b j)) ∧
  (z8 b.l k = none → ∃ n g j,wh (RR b k) = some (n,g,RR b j) ∧ j ≤ b.l.length ∧ (g = true → bad b.l j)) := by
 unfold wh
 rw [q0n b k 32 hb hk]
 simp only [Option.bind_eq_bind,Option.bind_some]
 by_cases hc : b.l[k]? = some 32
 ·have hi := ym hc
  have hn := zhu b (k + 1) hb hi
  rw [if_neg (by simp [hc]),if_pos hc]
  have hp : z8 b.l k = zl b.l (k + 1) := if_pos hc
  refine ⟨fun m j e => ?_,fun e => ?_⟩
  ·rw [hn.1 m j (by rw [← hp]; exact e)]
   rfl
  ·obtain ⟨n,g,j,e1,e2,e3⟩ := hn.2 (by rw [← hp]; exact e)
   rw [e1]
   exact ⟨n,g,j,rfl,e2,e3⟩
 ·rw [if_pos (by simp [hc]),if_neg hc]
  have hp : z8 b.l k = none := if_neg hc
  exact ⟨fun m j e => by (rw [hp] at e; cases e),fun _ => ⟨_,_,_,rfl,hk,by simp⟩⟩
theorem q23 {L : Bytes} {k : Nat} {c : UInt8} (h : bad L k) (hc : zi c = false) : ¬ L[k]? = some c := by
 obtain ⟨x,h1,h2⟩ := h
 rw [h1]
 intro h
 cases h
 rw [h2] at hc
 cases hc
theorem q4b (b : Sl UInt8) (k : Nat) (hb : b.l.length ≤ 65536) (hk : k ≤ b.l.length) :
  (∀ t j,zu b.l k = some (t,j) → q0x (RR b k) = some (t,true,RR b j)) ∧
  (zu b.l k = none → ∃ t j,q0x (RR b k) = some (t,false,RR b j) ∧ j ≤ b.l.length) := by
 unfold q0x
 have hn := tq b k hb hk
 cases hs : z8 b.l k with
 | none =>
  have ht : zu b.l k = none := by
   unfold z8 at hs
   unfold zu
   split
   ·rename_i h
    rw [if_pos h] at hs
    unfold wo
    rw [hs]
   ·rfl
  obtain ⟨n,g,i,e1,e2,e3⟩ := hn.2 hs
  rw [e1]
  simp only [Option.bind_eq_bind,Option.bind_some]
  refine ⟨fun t j e => by (rw [ht] at e; cases e),fun _ => ?_⟩
  split
  ·exact ⟨_,_,rfl,e2⟩
  ·rename_i h
   simp only [Bool.or_eq_true,Bool.not_eq_true',decide_eq_true_eq,not_or,Bool.not_eq_false] at h
   rw [q0n b i 58 hb e2]
   simp only [Option.bind_some]
   have hx : ¬ b.l[i]? = some 58 := q23 (e3 h.1) (by decide)
   rw [if_pos (by simp [hx]),if_neg hx]
   exact ⟨_,_,rfl,e2⟩
 | some mj =>
  obtain ⟨n,i⟩ := mj
  have hle := xe hs
  rw [hn.1 n i hs]
  simp only [Option.bind_eq_bind,Option.bind_some,Bool.not_true,Bool.false_or,decide_eq_true_eq]
  have hst : zu b.l k = if b.l[i]? = some 58 ∧ 0 ≤ n ∧ n ≤ (b.l.length : Int) - ((i + 1 : Nat) : Int) then some ((b.l.drop (i + 1)).take n.toNat,i + 1 + n.toNat) else none := by
   unfold z8 at hs
   split at hs
   ·rename_i h
    unfold zu wo
    rw [if_pos h,hs]
   ·cases hs
  by_cases h0 : n < 0
  ·rw [if_pos h0]
   rw [if_neg (by omega)] at hst
   exact ⟨fun t j e => by (rw [hst] at e; cases e),fun _ => ⟨_,_,rfl,hle.1⟩⟩
  ·rw [if_neg h0,q0n b i 58 hb hle.1]
   simp only [Option.bind_some]
   by_cases hc : b.l[i]? = some 58
   ·have hi := ym hc
    rw [if_pos hc]
    have ea : (RR b (i + 1)).at_ = ((i + 1 : Nat) : Int) := rfl
    have eb : (RR b (i + 1)).b = b := rfl
    rw [ea,eb,ug (n := (b.l.length : Int) - ((i + 1 : Nat) : Int))]
    by_cases hg : n ≤ (b.l.length : Int) - ((i + 1 : Nat) : Int)
    ·rw [if_neg (by simp only [hc,decide_true,Bool.not_true,Bool.false_or,decide_eq_true_eq]; omega),ug (n := ((i + 1 : Nat) : Int) + n)]
     rw [if_pos ⟨hc,by omega,hg⟩] at hst
     refine ⟨fun t j e => ?_,fun e => by (rw [hst] at e; cases e)⟩
     rw [hst] at e
     cases e
     have e3 : ((i + 1 : Nat) : Int) + n = ((i + 1 + n.toNat : Nat) : Int) := by omega
     rw [e3]
     unfold xk
     rw [if_pos ⟨⟨by omega,by omega⟩,by omega,by omega⟩]
     simp only [Option.bind_some,Int.toNat_natCast]
     rw [List.drop_take,show i + 1 + n.toNat - (i + 1) = n.toNat by omega]
     rfl
    ·rw [if_pos (by simp only [hc,decide_true,Bool.not_true,Bool.false_or,decide_eq_true_eq]; omega)]
     rw [if_neg (by omega)] at hst
     exact ⟨fun t j e => by (rw [hst] at e; cases e),fun _ => ⟨_,_,rfl,by omega⟩⟩
   ·rw [if_neg hc,if_pos (by simp [hc])]
    rw [if_neg (fun h => hc h.1)] at hst
    exact ⟨fun t j e => by (rw [hst] at e; cases e),fun _ => ⟨_,_,rfl,hle.1⟩⟩
end Go.Proofs.YthikhbpbpphaaaaGreatDoor
