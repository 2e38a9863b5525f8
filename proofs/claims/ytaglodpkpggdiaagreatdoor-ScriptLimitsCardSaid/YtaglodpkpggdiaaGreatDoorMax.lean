/-
  Scripts: the first line, all lines, and the law ScriptReads, on plain data.
-/
import Derived.Test.YtaglodpkpggdiaaGreatDoorMav
set_option linter.unusedSimpArgs false
set_option linter.unusedVariables false
namespace Go.Proofs.YtaglodpkpggdiaaGreatDoor
open Go Go.Gm
def q0u (L : Bytes) : Nat → Nat → List Int → Option (List Int × Nat)
 | 0,_,_ => none
 | f + 1,k,acc => if L[k]? = some 32 then
   match j4 L k with
   | none => none
   | some (n,k1) => if 0 ≤ n ∧ n < 4294967296 then q0u L f k1 (acc ++ [n]) else none
  else some (acc,k)
def q4b (L : Bytes) : Option (List Int × Nat) := if (yg L 0).1 = [100,105,99,101] then q0u L (L.length + 1) (yg L 0).2 [] else none
theorem q8c (b : Sl UInt8) (k : Nat) (hk : k ≤ b.l.length) (acc : List Int) : q0y (PR b k false,acc) = some (PR b k false,acc) := by
 rw [q0y.eq_1]
 rw [q4y b k false hk]
 simp
theorem qfj (b : Sl UInt8) (hb : b.l.length ≤ 65536) : ∀ (f k : Nat) (acc : List Int),k ≤ b.l.length → b.l.length - k < f → acc.length ≤ k →
  ∃ v j ok',q0y (PR b k true,acc) = some (PR b j ok',v) ∧ j ≤ b.l.length ∧ (ok' = true → q0u b.l f k acc = some (v,j)) ∧ (q0u b.l f k acc ≠ none → ok' = true)
 | 0,k,acc,hk,hf,ha => by omega
 | f + 1,k,acc,hk,hf,ha => by
  rw [q0y.eq_1]
  rw [q4y b k true hk]
  simp only [Option.bind_eq_bind,Option.bind_some,Bool.true_and,decide_eq_true_eq]
  by_cases hc : b.l[k]? = some 32
  ·rw [if_pos hc]
   obtain ⟨n,j1,ok1,e1,l1,p1,q1⟩ := q2n b k true hb hk
   rw [e1]
   simp only [Option.bind_some]
   unfold q0u
   rw [if_pos hc]
   cases ok1 with
   | false =>
    rw [if_neg (by simp [PR]),if_pos (q04 (by omega) (by omega))]
    have e : T.qb.mk (PR b j1 false).place false = PR b j1 false := rfl
    rw [e,q8c b j1 l1]
    refine ⟨_,j1,false,rfl,l1,by simp,fun h => ?_⟩
    apply q1 rfl
    intro hn
    rw [hn] at h
    exact h rfl
   | true =>
    have h1 := (p1 rfl).2
    have g1 := q02 h1
    rw [h1]
    simp only
    by_cases h0 : 0 ≤ n
    ·rw [if_pos (show ((PR b j1 true).ok_ && decide (n ≥ 0)) = true by simp [PR,h0]),if_pos (q04 (by omega) (by omega))]
     by_cases h2 : n < 4294967296
     ·rw [if_pos ⟨h0,h2⟩]
      have e : T.qb.mk (PR b j1 true).place (decide (n < 4294967296)) = PR b j1 true := by
       rw [decide_eq_true h2]
       rfl
      rw [e,IntWalk.u32_in n ⟨h0,by omega⟩]
      exact qfj b hb f j1 (acc ++ [n]) (by omega) (by omega) (by simp; omega)
     ·rw [if_neg (fun h => h2 h.2)]
      have e : T.qb.mk (PR b j1 true).place (decide (n < 4294967296)) = PR b j1 false := by
       rw [decide_eq_false h2]
       rfl
      rw [e,q8c b j1 l1]
      exact ⟨_,j1,false,rfl,l1,by simp,fun h => absurd rfl h⟩
    ·rw [if_neg (show ¬ ((PR b j1 true).ok_ && decide (n ≥ 0)) = true by simp [PR]; omega),if_pos (q04 (by omega) (by omega)),if_neg (fun h => h0 h.1)]
     have e : T.qb.mk (PR b j1 true).place false = PR b j1 false := rfl
     rw [e,q8c b j1 l1]
     exact ⟨_,j1,false,rfl,l1,by simp,fun h => absurd rfl h⟩
  ·rw [if_neg hc]
   unfold q0u
   rw [if_neg hc]
   exact ⟨acc,k,true,rfl,hk,fun _ => rfl,fun _ => rfl⟩
theorem zh0 (b : Sl UInt8) (hb : b.l.length ≤ 65536) : ∃ v j ok',q6s (PR b 0 true) = some (⟨v.isEmpty,v⟩,PR b j ok') ∧ j ≤ b.l.length ∧ (ok' = true → uk b.l (q4b b.l) = some (v,j)) ∧ (uk b.l (q4b b.l) ≠ none → ok' = true) := by
 unfold q6s
 rw [qf1 b 0 true hb (by omega)]
 have hw := qd5 b.l 0 (by omega)
 unfold q4b
 generalize (yg b.l 0).1 = w
 generalize (yg b.l 0).2 = m at hw
 simp only [Option.bind_eq_bind,Option.bind_some]
 by_cases hd : w = [100,105,99,101]
 ·have e : T.qb.mk (PR b m true).place (w == [100,105,99,101]) = PR b m true := by rw [hd]; rfl
  rw [e,if_pos hd]
  obtain ⟨v,j,ok1,e1,l1,p1,q1⟩ := qfj b hb (b.l.length + 1) m [] hw (by omega) (by simp)
  rw [e1]
  simp only [Option.bind_some]
  have h := q0i b hb v j ok1 l1 (q0u b.l (b.l.length + 1) m []) p1 q1 _ rfl
  obtain ⟨v',j',ok',x1,x2,x3,x4⟩ := h
  cases ok1 with
  | false =>
   rw [if_neg (by simp [PR])] at x1
   cases x1
   rw [if_neg (by simp [PR])]
   exact ⟨v,j,false,rfl,l1,fun h => (x3 h).2,x4 rfl⟩
  | true =>
   rw [if_pos (show (PR b j true).ok_ = true from rfl)] at x1
   rw [if_pos (show (PR b j true).ok_ = true from rfl)]
   rw [q46 b j true 10 hb l1] at x1 ⊢
   simp only [Option.bind_eq_bind,Option.bind_some,Option.some.injEq,Prod.mk.injEq] at x1 ⊢
   refine ⟨v,j',ok',⟨rfl,x1.2⟩,x2,fun h => ?_,x4 rfl⟩
   rw [x1.1]
   exact (x3 h).2
 ·have e : T.qb.mk (PR b m true).place (w == [100,105,99,101]) = PR b m false := by
   have : (w == [100,105,99,101]) = false := by simpa using hd
   rw [this]
   rfl
  rw [e,if_neg hd,q8c b m hw]
  simp only [Option.bind_some]
  rw [if_neg (by simp [PR])]
  exact ⟨[],m,false,rfl,hw,by simp,fun h => absurd rfl h⟩
theorem qd0 (L : Bytes) : ∀ (f k : Nat) (acc v : List T.qd) (j : Nat),q05 L f k acc = some (v,j) → k ≤ j
 | 0,k,acc,v,j,h => by cases h
 | f + 1,k,acc,v,j,h => by
  unfold q05 at h
  split at h
  ·split at h
   ·cases h
   rename_i h1
   split at h
   ·cases h
   rename_i h2
   split at h
   ·cases h
   rename_i h3
   have := qd0 L f _ _ v j h
   have := q02 h1
   have := q02 h2
   have := q6u h3
   omega
  ·cases h
   omega
theorem qgs (L : Bytes) : ∀ (f k : Nat) (acc v : List T.Sel) (j : Nat),pq L f k acc = some (v,j) → k ≤ j
 | 0,k,acc,v,j,h => by cases h
 | f + 1,k,acc,v,j,h => by
  unfold pq at h
  split at h
  ·split at h
   ·cases h
   rename_i h1
   split at h
   ·cases h
   rename_i h2
   have := qgs L f _ _ v j h
   have := q02 h1
   have := q02 h2
   omega
  ·cases h
   omega
theorem zof {w L : Bytes} {k j : Nat} {o : T.Op} (h : um w L k = some (o,j)) : k ≤ j := by
 have ht : ∀ kd,q5n kd (wy L k) = some (o,j) → k ≤ j := by
  intro kd h
  unfold q5n at h
  split at h
  ·cases h
  ·rename_i h1
   cases h
   have := q6u h1
   omega
 have hn : ∀ kd,q5e kd (j4 L k) = some (o,j) → k ≤ j := by
  intro kd h
  unfold q5e at h
  split at h
  ·cases h
  ·rename_i h1
   cases h
   have := q02 h1
   omega
 unfold um at h
 split at h
 ·unfold q77 at h
  split at h
  ·cases h
  rename_i h1
  split at h
  ·cases h
  rename_i h2
  cases h
  have := q6u h1
  have := q6u h2
  omega
 split at h
 ·exact ht _ h
 split at h
 ·exact ht _ h
 split at h
 ·exact hn _ h
 split at h
 ·exact hn _ h
 split at h
 ·unfold q11 at h
  split at h
  ·cases h
  rename_i h1
  split at h
  ·cases h
  rename_i h2
  cases h
  have := q02 h1
  unfold q37 at h2
  split at h2
  ·split at h2
   ·cases h2; omega
   ·split at h2
    ·cases h2; omega
    ·cases h2
  ·cases h2
 split at h
 ·unfold q6o at h
  split at h
  ·cases h
  rename_i h1
  cases h
  exact qd0 _ _ _ _ _ _ h1
 split at h
 ·unfold q7b at h
  split at h
  ·cases h
  rename_i h1
  cases h
  exact qgs _ _ _ _ _ _ h1
 split at h
 ·cases h
  omega
 ·cases h
theorem zyf {L : Bytes} {k j : Nat} {o : T.Op} (h : q1v L k = some (o,j)) : k < j := by
 unfold q1v uk at h
 split at h
 ·cases h
 ·rename_i h1
  split at h
  ·cases h
   have := zof h1
   unfold yg at this
   simp only at this
   omega
  ·cases h
abbrev Rd := (Sl Int) × (Sl T.Op) × Int × Int
def zj1 (nums : Sl Int) (v : ((Sl Int) × (Sl T.Op) × Int × Int × Int × T.qb × (List T.Op)) ⊕ (Int × T.qb × (List T.Op))) : Option Rd :=
 match v with
 | .inl y6 => some (y6.1,y6.2.1,y6.2.2.1,y6.2.2.2.1)
 | .inr y7 =>
  if (!y7.2.1.ok_) then
   some ((⟨true,([] : List Int)⟩ : Sl Int),(⟨true,([] : List T.Op)⟩ : Sl T.Op),y7.1,(10 : Int))
  else
   some (nums,(⟨y7.2.2.isEmpty,y7.2.2⟩ : Sl T.Op),(0 : Int),(0 : Int))
theorem qhs (b : Sl UInt8) (nums : Sl Int) (line : Int) (j : Nat) (os : List T.Op) : q0r (b,nums,line,PR b j false,os) = some (.inr (line,PR b j false,os)) := by
 rw [q0r.eq_1]
 rw [if_neg (by simp [PR])]
end Go.Proofs.YtaglodpkpggdiaaGreatDoor
