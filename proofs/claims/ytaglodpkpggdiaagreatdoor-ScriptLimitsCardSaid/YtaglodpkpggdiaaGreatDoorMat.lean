/-
  Scripts: numbers, parts and texts, by the program's reader and by the document's.
-/
import Derived.Test.YtaglodpkpggdiaaGreatDoorMas
set_option linter.unusedSimpArgs false
set_option linter.unusedVariables false
namespace Go.Proofs.YtaglodpkpggdiaaGreatDoor
open Go Go.Gm
theorem qv0 (L : Bytes) (k : Nat) : (if L[k]? = some 45 then k + 1 else k) = behind L k := by
 unfold behind w9
 by_cases h : L[k]? = some 45 <;> simp [h]
theorem qcq {L : Bytes} {k : Nat} (hk : k ≤ L.length) : behind L k ≤ L.length := by
 unfold behind w9
 by_cases h : L[k]? = some 45
 ·have : k < L.length := by
   rcases Nat.lt_or_ge k L.length with h1 | h1
   ·exact h1
   ·rw [List.getElem?_eq_none h1] at h; cases h
  simp [h]
  omega
 ·simp [h]
  exact hk
theorem qhf {L : Bytes} {k : Nat} (hk : k ≤ L.length) : k + (zm L k).length ≤ L.length := qa3 L k hk
theorem zpv {L : Bytes} {k : Nat} (h : (zm L k).length ≠ 0) : ∃ x,L[k]? = some x ∧ zb L (k : Int) = some x := by
 unfold zm at h
 cases hr : L.drop k with
 | nil => rw [hr] at h; simp at h
 | cons x r => exact ⟨x,(drop_cons hr).2.1,(drop_cons hr).1⟩
theorem qqo {L : Bytes} {k : Nat} (h : (zm L k).length ≤ 18) : 0 ≤ val 0 (zm L k) ∧ val 0 (zm L k) < 1000000000000000000 := by
 have h1 := qgt (zm L k) 0 0 (qdt j5 _) (by omega) (by simp)
 have h2 := qfl h
 rw [Nat.zero_add] at h1
 omega
theorem q7n {L : Bytes} {k j : Nat} {m : Int} (hk : k ≤ L.length) (h : kv L k = some (m,j)) : j ≤ L.length ∧ k < j := by
 unfold kv at h
 split at h
 ·cases h
 ·rename_i h1
  split at h
  ·cases h
  ·cases h
   have := qhf (qcq hk)
   have h3 : k ≤ behind L k := by unfold behind; split <;> omega
   omega
theorem qf7 (b : Sl UInt8) (k : Nat) (ok : Bool) (hb : b.l.length ≤ 65536) (hk : k ≤ b.l.length) :
  (∀ m j,kv b.l k = some (m,j) → q4n (PR b k ok) = some (m,true,PR b j ok)) ∧
  (kv b.l k = none → ∃ n j,q4n (PR b k ok) = some (n,false,PR b j ok) ∧ j ≤ b.l.length) := by
 have hj0 := qcq hk
 have hd := qhf hj0
 unfold q4n
 rw [q46 b k ok 45 hb hk]
 simp only [Option.bind_eq_bind,Option.bind_some,qv0]
 have h := qfb b ok (decide (b.l[k]? = some 45)) (behind b.l k) hb (b.l.drop (behind b.l k)) (behind b.l k) 0 0 rfl hj0 rfl (by omega) (by omega) (by simp)
 have hat : (PR b (behind b.l k) ok).place.at_ = ((behind b.l k : Nat) : Int) := rfl
 rw [hat]
 have hdd : List.takeWhile j5 (b.l.drop (behind b.l k)) = zm b.l (behind b.l k) := rfl
 rw [hdd] at h
 simp only [Nat.zero_add] at h
 rcases Nat.lt_or_ge 18 (zm b.l (behind b.l k)).length with h18 | h18
 ·obtain ⟨n',hn⟩ := h.2 h18
  rw [hn]
  refine ⟨fun m j e => ?_,fun _ => ⟨0,behind b.l k + 18,rfl,by omega⟩⟩
  unfold kv at e
  rw [if_pos (Or.inr h18)] at e
  cases e
 ·rw [h.1 (by omega)]
  simp only [Option.bind_some]
  have hat2 : (PR b (behind b.l k + (zm b.l (behind b.l k)).length) ok).place.at_ = ((behind b.l k + (zm b.l (behind b.l k)).length : Nat) : Int) := rfl
  have hpb : (PR b (behind b.l k + (zm b.l (behind b.l k)).length) ok).place.b = b := rfl
  rw [hat2,hpb]
  by_cases h0 : (zm b.l (behind b.l k)).length = 0
  ·rw [if_pos (by simp; omega)]
   refine ⟨fun m j e => ?_,fun _ => ⟨0,_,rfl,hd⟩⟩
   unfold kv at e
   rw [if_pos (Or.inl h0)] at e
   cases e
  ·rw [if_neg (by simp; omega)]
   obtain ⟨x,hx,hg⟩ := zpv h0
   rw [hg]
   simp only [Option.bind_some]
   have hv := qqo h18
   have hne : ¬ ((zm b.l (behind b.l k)).length = 0 ∨ 18 < (zm b.l (behind b.l k)).length) := by omega
   have hwr : IntKind.i64.wrap (((behind b.l k + (zm b.l (behind b.l k)).length : Nat) : Int) - ((behind b.l k : Nat) : Int)) = ((zm b.l (behind b.l k)).length : Int) := by rw [jl]; omega
   rw [hwr]
   by_cases hz : x = 48
   ·subst hz
    rw [if_pos (by rfl)]
    by_cases hc : b.l[k]? = some 45 ∨ 1 < (zm b.l (behind b.l k)).length
    ·rw [if_pos (by simp only [Bool.or_eq_true,decide_eq_true_eq,gt_iff_lt]; exact hc.imp id (fun h => by omega))]
     refine ⟨fun m j e => ?_,fun _ => ⟨0,_,rfl,hd⟩⟩
     unfold kv at e
     rw [if_neg hne,if_pos ⟨hx,by unfold w9; simpa using hc⟩] at e
     cases e
    ·rw [if_neg (by simp only [Bool.or_eq_true,decide_eq_true_eq,gt_iff_lt]; exact fun h => hc (h.imp id (fun h => by omega)))]
     have hs : kv b.l k = some (val 0 (zm b.l (behind b.l k)),behind b.l k + (zm b.l (behind b.l k)).length) := by
      unfold kv
      rw [if_neg hne,if_neg (by unfold w9; simp only [decide_eq_true_eq]; exact fun h => hc h.2)]
      have : w9 b.l k = false := by unfold w9; simp; exact fun h => hc (Or.inl h)
      rw [this]
      rfl
     refine ⟨fun m j e => ?_,fun e => ?_⟩
     ·rw [hs] at e
      cases e
      rfl
     ·rw [hs] at e; cases e
   ·rw [if_neg (by simpa using fun h => hz (qbd (c := 48) |>.mp h))]
    have hs : kv b.l k = some (if w9 b.l k then 0 - val 0 (zm b.l (behind b.l k)) else val 0 (zm b.l (behind b.l k)),behind b.l k + (zm b.l (behind b.l k)).length) := by
     unfold kv
     rw [if_neg hne,if_neg (by rw [hx]; intro h; exact hz (by simpa using h.1))]
    by_cases hn : b.l[k]? = some 45
    ·rw [if_pos (by simpa using hn),jl]
     have : w9 b.l k = true := by unfold w9; simp [hn]
     rw [this] at hs
     refine ⟨fun m j e => ?_,fun e => ?_⟩
     ·rw [hs] at e
      cases e
      rfl
     ·rw [hs] at e; cases e
    ·rw [if_neg (by simpa using hn)]
     have : w9 b.l k = false := by unfold w9; simp [hn]
     rw [this] at hs
     refine ⟨fun m j e => ?_,fun e => ?_⟩
     ·rw [hs] at e
      cases e
      rfl
     ·rw [hs] at e; cases e
end Go.Proofs.YtaglodpkpggdiaaGreatDoor
