/-
  Scripts: numbers, parts and texts, by the program's reader and by the document's.
-/
import Derived.Test.YthikhbpbpphaaaaGreatDoorRam
set_option linter.unusedSimpArgs false
set_option linter.unusedVariables false
namespace Go.Proofs.YthikhbpbpphaaaaGreatDoor
open Go Go.Gm
theorem qy7 (L : Bytes) (k : Nat) : (if L[k]? = some 45 then k + 1 else k) = behind L k := by
 unfold behind xg
 by_cases h : L[k]? = some 45 <;> simp [h]
theorem q7t {L : Bytes} {k : Nat} (hk : k ≤ L.length) : behind L k ≤ L.length := by
 unfold behind xg
 by_cases h : L[k]? = some 45
 ·have : k < L.length := by
   rcases Nat.lt_or_ge k L.length with h1 | h1
   ·exact h1
   ·rw [List.getElem?_eq_none h1] at h; cases h
  simp [h]
  omega
 ·simp [h]
  exact hk
theorem q7q {L : Bytes} {k : Nat} (hk : k ≤ L.length) : k + (qm L k).length ≤ L.length := q6c L k hk
theorem q71 {L : Bytes} {k : Nat} (h : (qm L k).length ≠ 0) : ∃ x,L[k]? = some x ∧ za L (k : Int) = some x := by
 unfold qm at h
 cases hr : L.drop k with
 | nil => rw [hr] at h; simp at h
 | cons x r => exact ⟨x,(drop_cons hr).2.1,(drop_cons hr).1⟩
theorem qdb {L : Bytes} {k : Nat} (h : (qm L k).length ≤ 18) : 0 ≤ val 0 (qm L k) ∧ val 0 (qm L k) < 1000000000000000000 := by
 have h1 := qbc (qm L k) 0 0 (q7k zi _) (by omega) (by simp)
 have h2 := qdi h
 rw [Nat.zero_add] at h1
 omega
theorem q7b {L : Bytes} {k j : Nat} {m : Int} (hk : k ≤ L.length) (h : zl L k = some (m,j)) : j ≤ L.length ∧ k < j := by
 unfold zl at h
 split at h
 ·cases h
 ·rename_i h1
  split at h
  ·cases h
  ·cases h
   have := q7q (q7t hk)
   have h3 : k ≤ behind L k := by unfold behind; split <;> omega
   omega
theorem qau (b : Sl UInt8) (k : Nat) (ok : Bool) (hb : b.l.length ≤ 65536) (hk : k ≤ b.l.length) :
  (∀ m j,zl b.l k = some (m,j) → q3f (PR b k ok) = some (m,true,PR b j ok)) ∧
  (zl b.l k = none → ∃ n j,q3f (PR b k ok) = some (n,false,PR b j ok) ∧ j ≤ b.l.length) := by
 have hj0 := q7t hk
 have hd := q7q hj0
 unfold q3f
 rw [q30 b k ok 45 hb hk]
 simp only [Option.bind_eq_bind,Option.bind_some,qy7]
 have h := qe7 b ok (decide (b.l[k]? = some 45)) (behind b.l k) hb (b.l.drop (behind b.l k)) (behind b.l k) 0 0 rfl hj0 rfl (by omega) (by omega) (by simp)
 have hat : (PR b (behind b.l k) ok).place.at_ = ((behind b.l k : Nat) : Int) := rfl
 rw [hat]
 have hdd : List.takeWhile zi (b.l.drop (behind b.l k)) = qm b.l (behind b.l k) := rfl
 rw [hdd] at h
 simp only [Nat.zero_add] at h
 rcases Nat.lt_or_ge 18 (qm b.l (behind b.l k)).length with h18 | h18
 ·obtain ⟨n',hn⟩ := h.2 h18
  rw [hn]
  refine ⟨fun m j e => ?_,fun _ => ⟨0,behind b.l k + 18,rfl,by omega⟩⟩
  unfold zl at e
  rw [if_pos (Or.inr h18)] at e
  cases e
 ·rw [h.1 (by omega)]
  simp only [Option.bind_some]
  have hat2 : (PR b (behind b.l k + (qm b.l (behind b.l k)).length) ok).place.at_ = ((behind b.l k + (qm b.l (behind b.l k)).length : Nat) : Int) := rfl
  have hpb : (PR b (behind b.l k + (qm b.l (behind b.l k)).length) ok).place.b = b := rfl
  rw [hat2,hpb]
  by_cases h0 : (qm b.l (behind b.l k)).length = 0
  ·rw [if_pos (by simp; omega)]
   refine ⟨fun m j e => ?_,fun _ => ⟨0,_,rfl,hd⟩⟩
   unfold zl at e
   rw [if_pos (Or.inl h0)] at e
   cases e
  ·rw [if_neg (by simp; omega)]
   obtain ⟨x,hx,hg⟩ := q71 h0
   rw [hg]
   simp only [Option.bind_some]
   have hv := qdb h18
   have hne : ¬ ((qm b.l (behind b.l k)).length = 0 ∨ 18 < (qm b.l (behind b.l k)).length) := by omega
   have hwr : IntKind.i64.wrap (((behind b.l k + (qm b.l (behind b.l k)).length : Nat) : Int) - ((behind b.l k : Nat) : Int)) = ((qm b.l (behind b.l k)).length : Int) := by rw [ug]; omega
   rw [hwr]
   by_cases hz : x = 48
   ·subst hz
    rw [if_pos (by rfl)]
    by_cases hc : b.l[k]? = some 45 ∨ 1 < (qm b.l (behind b.l k)).length
    ·rw [if_pos (by simp only [Bool.or_eq_true,decide_eq_true_eq,gt_iff_lt]; exact hc.imp id (fun h => by omega))]
     refine ⟨fun m j e => ?_,fun _ => ⟨0,_,rfl,hd⟩⟩
     unfold zl at e
     rw [if_neg hne,if_pos ⟨hx,by unfold xg; simpa using hc⟩] at e
     cases e
    ·rw [if_neg (by simp only [Bool.or_eq_true,decide_eq_true_eq,gt_iff_lt]; exact fun h => hc (h.imp id (fun h => by omega)))]
     have hs : zl b.l k = some (val 0 (qm b.l (behind b.l k)),behind b.l k + (qm b.l (behind b.l k)).length) := by
      unfold zl
      rw [if_neg hne,if_neg (by unfold xg; simp only [decide_eq_true_eq]; exact fun h => hc h.2)]
      have : xg b.l k = false := by unfold xg; simp; exact fun h => hc (Or.inl h)
      rw [this]
      rfl
     refine ⟨fun m j e => ?_,fun e => ?_⟩
     ·rw [hs] at e
      cases e
      rfl
     ·rw [hs] at e; cases e
   ·rw [if_neg (by simpa using fun h => hz (q1k (c := 48) |>.mp h))]
    have hs : zl b.l k = some (if xg b.l k then 0 - val 0 (qm b.l (behind b.l k)) else val 0 (qm b.l (behind b.l k)),behind b.l k + (qm b.l (behind b.l k)).length) := by
     unfold zl
     rw [if_neg hne,if_neg (by rw [hx]; intro h; exact hz (by simpa using h.1))]
    by_cases hn : b.l[k]? = some 45
    ·rw [if_pos (by simpa using hn),ug]
     have : xg b.l k = true := by unfold xg; simp [hn]
     rw [this] at hs
     refine ⟨fun m j e => ?_,fun e => ?_⟩
     ·rw [hs] at e
      cases e
      rfl
     ·rw [hs] at e; cases e
    ·rw [if_neg (by simpa using hn)]
     have : xg b.l k = false := by unfold xg; simp [hn]
     rw [this] at hs
     refine ⟨fun m j e => ?_,fun e => ?_⟩
     ·rw [hs] at e
      cases e
      rfl
     ·rw [hs] at e; cases e
theorem zhu (b : Sl UInt8) (k : Nat) (hb : b.l.length ≤ 65536) (hk : k ≤ b.l.length) :
  (∀ m j,zl b.l k = some (m,j) → q47 (RR b k) = some (m,true,RR b j)) ∧
  (zl b.l k = none → ∃ n g j,q47 (RR b k) = some (n,g,RR b j) ∧ j ≤ b.l.length ∧ (g = true → bad b.l j)) := by
 have hj0 := q7t hk
 have hd := q7q hj0
 have key : ∀ (neg : Bool) ,neg = xg b.l k → ∀ (o : Option (Int × Bool × T.qf)),
   o = (uy (neg,((behind b.l k : Nat) : Int),(0 : Int),RR b (behind b.l k)) >>= fun v =>
    if (v.2.at_ == ((behind b.l k : Nat) : Int)) then some ((0 : Int),false,v.2)
    else za v.2.b.l ((behind b.l k : Nat) : Int) >>= fun x =>
     if ((x.toNat : Int) = 48) ∧ (neg = true ∨ v.2.at_ > ((behind b.l k : Nat) : Int) + 1) then some ((0 : Int),false,v.2)
     else some (if neg then IntKind.i64.wrap ((0 : Int) - v.1) else v.1,true,v.2)) →
   (∀ m j,zl b.l k = some (m,j) → o = some (m,true,RR b j)) ∧
   (zl b.l k = none → ∃ n g j,o = some (n,g,RR b j) ∧ j ≤ b.l.length ∧ (g = true → bad b.l j)) := by
  intro neg hneg o ho
  have h := qdm b neg (behind b.l k) hb (b.l.drop (behind b.l k)) (behind b.l k) 0 0 rfl hj0 rfl (by omega) (by omega) (by simp)
  have hdd : List.takeWhile zi (b.l.drop (behind b.l k)) = qm b.l (behind b.l k) := rfl
  rw [hdd] at h
  simp only [Nat.zero_add] at h
  rcases Nat.lt_or_ge 18 (qm b.l (behind b.l k)).length with h18 | h18
  ·obtain ⟨q1,q2,n',q3,q4,hn⟩ := h.2 h18
   rw [hn] at ho
   simp only [Option.bind_eq_bind,Option.bind_some] at ho
   have hs : zl b.l k = none := by unfold zl; rw [if_pos (Or.inr h18)]
   refine ⟨fun m j e => by (rw [hs] at e; cases e),fun _ => ?_⟩
   have hat2 : (RR b (behind b.l k + 18)).at_ = ((behind b.l k + 18 : Nat) : Int) := rfl
   have hpb : (RR b (behind b.l k + 18)).b = b := rfl
   rw [hat2,hpb,if_neg (by simp; omega)] at ho
   obtain ⟨x,hx,hg⟩ := q71 (L := b.l) (k := behind b.l k) (by omega)
   rw [hg] at ho
   simp only [Option.bind_some] at ho
   split at ho
   ·exact ⟨_,_,_,ho,by omega,by simp⟩
   ·exact ⟨_,_,_,ho,by omega,fun _ => q1⟩
  ·rw [h.1 (by omega)] at ho
   simp only [Option.bind_eq_bind,Option.bind_some] at ho
   have hat2 : (RR b (behind b.l k + (qm b.l (behind b.l k)).length)).at_ = ((behind b.l k + (qm b.l (behind b.l k)).length : Nat) : Int) := rfl
   have hpb : (RR b (behind b.l k + (qm b.l (behind b.l k)).length)).b = b := rfl
   rw [hat2,hpb] at ho
   by_cases h0 : (qm b.l (behind b.l k)).length = 0
   ·rw [if_pos (by simp; omega)] at ho
    have hs : zl b.l k = none := by unfold zl; rw [if_pos (Or.inl h0)]
    exact ⟨fun m j e => by (rw [hs] at e; cases e),fun _ => ⟨_,_,_,ho,hd,by simp⟩⟩
   ·rw [if_neg (by simp; omega)] at ho
    obtain ⟨x,hx,hg⟩ := q71 h0
    rw [hg] at ho
    simp only [Option.bind_some] at ho
    have hv := qdb h18
    have hne : ¬ ((qm b.l (behind b.l k)).length = 0 ∨ 18 < (qm b.l (behind b.l k)).length) := by omega
    by_cases hc : x = 48 ∧ (neg = true ∨ 1 < (qm b.l (behind b.l k)).length)
    ·rw [if_pos ⟨q1k (c := 48) |>.mpr hc.1,hc.2.imp id (by omega)⟩] at ho
     have hs : zl b.l k = none := by unfold zl; rw [if_neg hne,if_pos ⟨by rw [hx,hc.1],by rw [← hneg]; exact hc.2⟩]
     exact ⟨fun m j e => by (rw [hs] at e; cases e),fun _ => ⟨_,_,_,ho,hd,by simp⟩⟩
    ·rw [if_neg (fun h => hc ⟨q1k (c := 48) |>.mp h.1,h.2.imp id (by omega)⟩),ug] at ho
     have hs : zl b.l k = some (if neg then 0 - val 0 (qm b.l (behind b.l k)) else val 0 (qm b.l (behind b.l k)),behind b.l k + (qm b.l (behind b.l k)).length) := by
      unfold zl
      rw [if_neg hne,if_neg (by rw [hx,← hneg]; intro h; exact hc ⟨by simpa using h.1,h.2⟩),← hneg]
     refine ⟨fun m j e => ?_,fun e => by (rw [hs] at e; cases e)⟩
     rw [hs] at e
     cases e
     rw [ho]
 unfold q47
 have ea : (RR b k).at_ = (k : Int) := rfl
 have eb : (RR b k).b = b := rfl
 rw [ea,eb]
 cases hr : b.l.drop k with
 | nil =>
  obtain ⟨g1,g2⟩ := drop_nil hr hk
  rw [if_neg (by simp; omega)]
  have hng : xg b.l k = false := by unfold xg; simp [g2]
  have hbh : behind b.l k = k := by unfold behind; simp [hng]
  refine key false hng.symm _ ?_
  rw [hbh]
  congr 1
  funext v
  rw [ji (by omega)]
  simp only [Bool.false_eq_true,false_or,Int.natCast_add,if_false,Bool.and_eq_true,beq_iff_eq,decide_eq_true_eq]
  rfl
 | cons x r =>
  obtain ⟨g1,g2,g3,g4⟩ := drop_cons hr
  rw [if_pos (by simp; omega),g1]
  simp only [Option.bind_eq_bind,Option.bind_some]
  by_cases hx : x = 45
  ·subst hx
   rw [if_pos (by rfl)]
   have hng : xg b.l k = true := by unfold xg; simp [g2]
   have hbh : behind b.l k = k + 1 := by unfold behind; simp [hng]
   have he : ((((45 : UInt8).toNat : Int) == (45 : Int)) : Bool) = true := by rfl
   rw [he,ji (by omega)]
   refine key true hng.symm _ ?_
   rw [hbh]
   simp only [Option.bind_eq_bind,true_or,and_true,if_true,beq_iff_eq]
   rfl
  ·have hx2 : ¬ ((x.toNat : Int) = 45) := fun h => hx (q1k (c := 45) |>.mp h)
   have he : ((((x.toNat : Nat) : Int) == (45 : Int)) : Bool) = false := by simpa using hx2
   rw [he]
   rw [if_neg (by simp)]
   have hng : xg b.l k = false := by unfold xg; simp [g2,hx]
   have hbh : behind b.l k = k := by unfold behind; simp [hng]
   refine key false hng.symm _ ?_
   rw [hbh,ji (by omega)]
   simp only [Option.bind_eq_bind,Bool.false_eq_true,false_or,Int.natCast_add,if_false,Bool.and_eq_true,beq_iff_eq,decide_eq_true_eq]
   rfl
end Go.Proofs.YthikhbpbpphaaaaGreatDoor
