/-
  Scripts: numbers, parts and texts, by the program's reader and by the document's.
-/
import Derived.Test.YtaglodpkpggdiaaGreatDoorAas
set_option linter.unusedSimpArgs false
set_option linter.unusedVariables false
namespace Go.Proofs.YtaglodpkpggdiaaGreatDoor
open Go Go.Gm
theorem zb6 (L : Bytes) (k : Nat) : (if L[k]? = some 45 then k + 1 else k) = behind L k := by
 unfold behind jf
 by_cases h : L[k]? = some 45 <;> simp [h]
theorem qib {L : Bytes} {k : Nat} (hk : k ≤ L.length) : behind L k ≤ L.length := by
 unfold behind jf
 by_cases h : L[k]? = some 45
 ·have : k < L.length := by
   rcases Nat.lt_or_ge k L.length with h1 | h1
   ·exact h1
   ·rw [List.getElem?_eq_none h1] at h; cases h
  simp [h]
  omega
 ·simp [h]
  exact hk
theorem qg6 {L : Bytes} {k : Nat} (hk : k ≤ L.length) : k + (qx L k).length ≤ L.length := qcb L k hk
theorem zk0 {L : Bytes} {k : Nat} (h : (qx L k).length ≠ 0) : ∃ x,L[k]? = some x ∧ ql L (k : Int) = some x := by
 unfold qx at h
 cases hr : L.drop k with
 | nil => rw [hr] at h; simp at h
 | cons x r => exact ⟨x,(drop_cons hr).2.1,(drop_cons hr).1⟩
theorem qdb {L : Bytes} {k : Nat} (h : (qx L k).length ≤ 18) : 0 ≤ val 0 (qx L k) ∧ val 0 (qx L k) < 1000000000000000000 := by
 have h1 := qi7 (qx L k) 0 0 (qam zy _) (by omega) (by simp)
 have h2 := qep h
 rw [Nat.zero_add] at h1
 omega
theorem q9e {L : Bytes} {k j : Nat} {m : Int} (hk : k ≤ L.length) (h : ko L k = some (m,j)) : j ≤ L.length ∧ k < j := by
 unfold ko at h
 split at h
 ·cases h
 ·rename_i h1
  split at h
  ·cases h
  ·cases h
   have := qg6 (qib hk)
   have h3 : k ≤ behind L k := by unfold behind; split <;> omega
   omega
theorem qgg (b : Sl UInt8) (k : Nat) (ok : Bool) (hb : b.l.length ≤ 65536) (hk : k ≤ b.l.length) :
  (∀ m j,ko b.l k = some (m,j) → q4v (PR b k ok) = some (m,true,PR b j ok)) ∧
  (ko b.l k = none → ∃ n j,q4v (PR b k ok) = some (n,false,PR b j ok) ∧ j ≤ b.l.length) := by
 have hj0 := qib hk
 have hd := qg6 hj0
 unfold q4v
 rw [q55 b k ok 45 hb hk]
 simp only [Option.bind_eq_bind,Option.bind_some,zb6]
 have h := qh6 b ok (decide (b.l[k]? = some 45)) (behind b.l k) hb (b.l.drop (behind b.l k)) (behind b.l k) 0 0 rfl hj0 rfl (by omega) (by omega) (by simp)
 have hat : (PR b (behind b.l k) ok).place.at_ = ((behind b.l k : Nat) : Int) := rfl
 rw [hat]
 have hdd : List.takeWhile zy (b.l.drop (behind b.l k)) = qx b.l (behind b.l k) := rfl
 rw [hdd] at h
 simp only [Nat.zero_add] at h
 rcases Nat.lt_or_ge 18 (qx b.l (behind b.l k)).length with h18 | h18
 ·obtain ⟨n',hn⟩ := h.2 h18
  rw [hn]
  refine ⟨fun m j e => ?_,fun _ => ⟨0,behind b.l k + 18,rfl,by omega⟩⟩
  unfold ko at e
  rw [if_pos (Or.inr h18)] at e
  cases e
 ·rw [h.1 (by omega)]
  simp only [Option.bind_some]
  have hat2 : (PR b (behind b.l k + (qx b.l (behind b.l k)).length) ok).place.at_ = ((behind b.l k + (qx b.l (behind b.l k)).length : Nat) : Int) := rfl
  have hpb : (PR b (behind b.l k + (qx b.l (behind b.l k)).length) ok).place.b = b := rfl
  rw [hat2,hpb]
  by_cases h0 : (qx b.l (behind b.l k)).length = 0
  ·rw [if_pos (by simp; omega)]
   refine ⟨fun m j e => ?_,fun _ => ⟨0,_,rfl,hd⟩⟩
   unfold ko at e
   rw [if_pos (Or.inl h0)] at e
   cases e
  ·rw [if_neg (by simp; omega)]
   obtain ⟨x,hx,hg⟩ := zk0 h0
   rw [hg]
   simp only [Option.bind_some]
   have hv := qdb h18
   have hne : ¬ ((qx b.l (behind b.l k)).length = 0 ∨ 18 < (qx b.l (behind b.l k)).length) := by omega
   have hwr : IntKind.i64.wrap (((behind b.l k + (qx b.l (behind b.l k)).length : Nat) : Int) - ((behind b.l k : Nat) : Int)) = ((qx b.l (behind b.l k)).length : Int) := by rw [xy]; omega
   rw [hwr]
   by_cases hz : x = 48
   ·subst hz
    rw [if_pos (by rfl)]
    by_cases hc : b.l[k]? = some 45 ∨ 1 < (qx b.l (behind b.l k)).length
    ·rw [if_pos (by simp only [Bool.or_eq_true,decide_eq_true_eq,gt_iff_lt]; exact hc.imp id (fun h => by omega))]
     refine ⟨fun m j e => ?_,fun _ => ⟨0,_,rfl,hd⟩⟩
     unfold ko at e
     rw [if_neg hne,if_pos ⟨hx,by unfold jf; simpa using hc⟩] at e
     cases e
    ·rw [if_neg (by simp only [Bool.or_eq_true,decide_eq_true_eq,gt_iff_lt]; exact fun h => hc (h.imp id (fun h => by omega)))]
     have hs : ko b.l k = some (val 0 (qx b.l (behind b.l k)),behind b.l k + (qx b.l (behind b.l k)).length) := by
      unfold ko
      rw [if_neg hne,if_neg (by unfold jf; simp only [decide_eq_true_eq]; exact fun h => hc h.2)]
      have : jf b.l k = false := by unfold jf; simp; exact fun h => hc (Or.inl h)
      rw [this]
      rfl
     refine ⟨fun m j e => ?_,fun e => ?_⟩
     ·rw [hs] at e
      cases e
      rfl
     ·rw [hs] at e; cases e
   ·rw [if_neg (by simpa using fun h => hz (qbh (c := 48) |>.mp h))]
    have hs : ko b.l k = some (if jf b.l k then 0 - val 0 (qx b.l (behind b.l k)) else val 0 (qx b.l (behind b.l k)),behind b.l k + (qx b.l (behind b.l k)).length) := by
     unfold ko
     rw [if_neg hne,if_neg (by rw [hx]; intro h; exact hz (by simpa using h.1))]
    by_cases hn : b.l[k]? = some 45
    ·rw [if_pos (by simpa using hn),xy]
     have : jf b.l k = true := by unfold jf; simp [hn]
     rw [this] at hs
     refine ⟨fun m j e => ?_,fun e => ?_⟩
     ·rw [hs] at e
      cases e
      rfl
     ·rw [hs] at e; cases e
    ·rw [if_neg (by simpa using hn)]
     have : jf b.l k = false := by unfold jf; simp [hn]
     rw [this] at hs
     refine ⟨fun m j e => ?_,fun e => ?_⟩
     ·rw [hs] at e
      cases e
      rfl
     ·rw [hs] at e; cases e
end Go.Proofs.YtaglodpkpggdiaaGreatDoor
