/-
  Scripts: the first line, all lines, and the law ScriptReads, on plain data.
-/
import Derived.Test.YtaglodpkpggdiaaGreatDoorLav
set_option linter.unusedSimpArgs false
set_option linter.unusedVariables false
namespace Go.Proofs.YtaglodpkpggdiaaGreatDoor
open Go Go.Gm
def q1i (L : Bytes) : Nat → Nat → List Int → Option (List Int × Nat)
 | 0,_,_ => none
 | f + 1,k,acc => if L[k]? = some 32 then
   match zu L k with
   | none => none
   | some (n,k1) => if 0 ≤ n ∧ n < 4294967296 then q1i L f k1 (acc ++ [n]) else none
  else some (acc,k)
def q4f (L : Bytes) : Option (List Int × Nat) := if (jv L 0).1 = [100,105,99,101] then q1i L (L.length + 1) (jv L 0).2 [] else none
theorem q81 (b : Sl UInt8) (k : Nat) (hk : k ≤ b.l.length) (acc : List Int) : q12 (PR b k false,acc) = some (PR b k false,acc) := by
 rw [q12.eq_1]
 rw [q57 b k false hk]
 simp
theorem qh1 (b : Sl UInt8) (hb : b.l.length ≤ 65536) : ∀ (f k : Nat) (acc : List Int),k ≤ b.l.length → b.l.length - k < f → acc.length ≤ k →
  ∃ v j ok',q12 (PR b k true,acc) = some (PR b j ok',v) ∧ j ≤ b.l.length ∧ (ok' = true → q1i b.l f k acc = some (v,j)) ∧ (q1i b.l f k acc ≠ none → ok' = true)
 | 0,k,acc,hk,hf,ha => by omega
 | f + 1,k,acc,hk,hf,ha => by
  rw [q12.eq_1]
  rw [q57 b k true hk]
  simp only [Option.bind_eq_bind,Option.bind_some,Bool.true_and,decide_eq_true_eq]
  by_cases hc : b.l[k]? = some 32
  ·rw [if_pos hc]
   obtain ⟨n,j1,ok1,e1,l1,p1,q1⟩ := q3r b k true hb hk
   rw [e1]
   simp only [Option.bind_some]
   unfold q1i
   rw [if_pos hc]
   cases ok1 with
   | false =>
    rw [if_neg (by simp [PR]),if_pos (ni (by omega) (by omega))]
    have e : T.qc.mk (PR b j1 false).place false = PR b j1 false := rfl
    rw [e,q81 b j1 l1]
    refine ⟨_,j1,false,rfl,l1,by simp,fun h => ?_⟩
    apply q1 rfl
    intro hn
    rw [hn] at h
    exact h rfl
   | true =>
    have h1 := (p1 rfl).2
    have g1 := uq h1
    rw [h1]
    simp only
    by_cases h0 : 0 ≤ n
    ·rw [if_pos (show ((PR b j1 true).ok_ && decide (n ≥ 0)) = true by simp [PR,h0]),if_pos (ni (by omega) (by omega))]
     by_cases h2 : n < 4294967296
     ·rw [if_pos ⟨h0,h2⟩]
      have e : T.qc.mk (PR b j1 true).place (decide (n < 4294967296)) = PR b j1 true := by
       rw [decide_eq_true h2]
       rfl
      rw [e,IntWalk.u32_in n ⟨h0,by omega⟩]
      exact qh1 b hb f j1 (acc ++ [n]) (by omega) (by omega) (by simp; omega)
     ·rw [if_neg (fun h => h2 h.2)]
      have e : T.qc.mk (PR b j1 true).place (decide (n < 4294967296)) = PR b j1 false := by
       rw [decide_eq_false h2]
       rfl
      rw [e,q81 b j1 l1]
      exact ⟨_,j1,false,rfl,l1,by simp,fun h => absurd rfl h⟩
    ·rw [if_neg (show ¬ ((PR b j1 true).ok_ && decide (n ≥ 0)) = true by simp [PR]; omega),if_pos (ni (by omega) (by omega)),if_neg (fun h => h0 h.1)]
     have e : T.qc.mk (PR b j1 true).place false = PR b j1 false := rfl
     rw [e,q81 b j1 l1]
     exact ⟨_,j1,false,rfl,l1,by simp,fun h => absurd rfl h⟩
  ·rw [if_neg hc]
   unfold q1i
   rw [if_neg hc]
   exact ⟨acc,k,true,rfl,hk,fun _ => rfl,fun _ => rfl⟩
theorem zb2 (b : Sl UInt8) (hb : b.l.length ≤ 65536) : ∃ v j ok',q7c (PR b 0 true) = some (⟨v.isEmpty,v⟩,PR b j ok') ∧ j ≤ b.l.length ∧ (ok' = true → yg b.l (q4f b.l) = some (v,j)) ∧ (yg b.l (q4f b.l) ≠ none → ok' = true) := by
 unfold q7c
 rw [qeu b 0 true hb (by omega)]
 have hw := qi4 b.l 0 (by omega)
 unfold q4f
 generalize (jv b.l 0).1 = w
 generalize (jv b.l 0).2 = m at hw
 simp only [Option.bind_eq_bind,Option.bind_some]
 by_cases hd : w = [100,105,99,101]
 ·have e : T.qc.mk (PR b m true).place (w == [100,105,99,101]) = PR b m true := by rw [hd]; rfl
  rw [e,if_pos hd]
  obtain ⟨v,j,ok1,e1,l1,p1,q1⟩ := qh1 b hb (b.l.length + 1) m [] hw (by omega) (by simp)
  rw [e1]
  simp only [Option.bind_some]
  have h := q0g b hb v j ok1 l1 (q1i b.l (b.l.length + 1) m []) p1 q1 _ rfl
  obtain ⟨v',j',ok',x1,x2,x3,x4⟩ := h
  cases ok1 with
  | false =>
   rw [if_neg (by simp [PR])] at x1
   cases x1
   rw [if_neg (by simp [PR])]
   exact ⟨v,j,false,rfl,l1,fun h => (x3 h).2,x4 rfl⟩
  | true =>
   rw [if_pos (show (PR b j true).ok_ = true from rfl)] at x1
   rw [if_pos (show (PR b j true).ok_ = true from rfl)]
   rw [q4a b j true 10 hb l1] at x1 ⊢
   simp only [Option.bind_eq_bind,Option.bind_some,Option.some.injEq,Prod.mk.injEq] at x1 ⊢
   refine ⟨v,j',ok',⟨rfl,x1.2⟩,x2,fun h => ?_,x4 rfl⟩
   rw [x1.1]
   exact (x3 h).2
 ·have e : T.qc.mk (PR b m true).place (w == [100,105,99,101]) = PR b m false := by
   have : (w == [100,105,99,101]) = false := by simpa using hd
   rw [this]
   rfl
  rw [e,if_neg hd,q81 b m hw]
  simp only [Option.bind_some]
  rw [if_neg (by simp [PR])]
  exact ⟨[],m,false,rfl,hw,by simp,fun h => absurd rfl h⟩
theorem qf8 (L : Bytes) : ∀ (f k : Nat) (acc v : List T.qb) (j : Nat),ui L f k acc = some (v,j) → k ≤ j
 | 0,k,acc,v,j,h => by cases h
 | f + 1,k,acc,v,j,h => by
  unfold ui at h
  split at h
  ·split at h
   ·cases h
   rename_i h1
   split at h
   ·cases h
   rename_i h2
   split at h
   ·cases h
   rename_i h3
   have := qf8 L f _ _ v j h
   have := uq h1
   have := uq h2
   have := q58 h3
   omega
  ·cases h
   omega
theorem qe4 (L : Bytes) : ∀ (f k : Nat) (acc v : List T.Sel) (j : Nat),ug L f k acc = some (v,j) → k ≤ j
 | 0,k,acc,v,j,h => by cases h
 | f + 1,k,acc,v,j,h => by
  unfold ug at h
  split at h
  ·split at h
   ·cases h
   rename_i h1
   split at h
   ·cases h
   rename_i h2
   have := qe4 L f _ _ v j h
   have := uq h1
   have := uq h2
   omega
  ·cases h
   omega
theorem qpl {w L : Bytes} {k j : Nat} {o : T.Op} (h : yu w L k = some (o,j)) : k ≤ j := by
 have ht : ∀ kd,q2x kd (j4 L k) = some (o,j) → k ≤ j := by
  intro kd h
  unfold q2x at h
  split at h
  ·cases h
  ·rename_i h1
   cases h
   have := q58 h1
   omega
 have hn : ∀ kd,q3w kd (zu L k) = some (o,j) → k ≤ j := by
  intro kd h
  unfold q3w at h
  split at h
  ·cases h
  ·rename_i h1
   cases h
   have := uq h1
   omega
 unfold yu at h
 split at h
 ·unfold q2u at h
  split at h
  ·cases h
  rename_i h1
  split at h
  ·cases h
  rename_i h2
  cases h
  have := q58 h1
  have := q58 h2
  omega
 split at h
 ·exact ht _ h
 split at h
 ·exact ht _ h
 split at h
 ·exact hn _ h
 split at h
 ·exact hn _ h
 split at h
 ·unfold nu at h
  split at h
  ·cases h
  rename_i h1
  split at h
  ·cases h
  rename_i h2
  cases h
  have := uq h1
  unfold tu at h2
  split at h2
  ·split at h2
   ·cases h2; omega
   ·split at h2
    ·cases h2; omega
    ·cases h2
  ·cases h2
 split at h
 ·unfold q33 at h
  split at h
  ·cases h
  rename_i h1
  cases h
  exact qf8 _ _ _ _ _ _ h1
 split at h
 ·unfold q3g at h
  split at h
  ·cases h
  rename_i h1
  cases h
  exact qe4 _ _ _ _ _ _ h1
 split at h
 ·cases h
  omega
 ·cases h
theorem qio {L : Bytes} {k j : Nat} {o : T.Op} (h : uz L k = some (o,j)) : k < j := by
 unfold uz yg at h
 split at h
 ·cases h
 ·rename_i h1
  split at h
  ·cases h
   have := qpl h1
   unfold jv at this
   simp only at this
   omega
  ·cases h
abbrev Rd := (Sl Int) × (Sl T.Op) × Int × Int
def zlr (nums : Sl Int) (v : ((Sl Int) × (Sl T.Op) × Int × Int × Int × T.qc × (List T.Op)) ⊕ (Int × T.qc × (List T.Op))) : Option Rd :=
 match v with
 | .inl y6 => some (y6.1,y6.2.1,y6.2.2.1,y6.2.2.2.1)
 | .inr y7 =>
  if (!y7.2.1.ok_) then
   some ((⟨true,([] : List Int)⟩ : Sl Int),(⟨true,([] : List T.Op)⟩ : Sl T.Op),y7.1,(10 : Int))
  else
   some (nums,(⟨y7.2.2.isEmpty,y7.2.2⟩ : Sl T.Op),(0 : Int),(0 : Int))
theorem qi9 (b : Sl UInt8) (nums : Sl Int) (line : Int) (j : Nat) (os : List T.Op) : q1k (b,nums,line,PR b j false,os) = some (.inr (line,PR b j false,os)) := by
 rw [q1k.eq_1]
 rw [if_neg (by simp [PR])]
end Go.Proofs.YtaglodpkpggdiaaGreatDoor
