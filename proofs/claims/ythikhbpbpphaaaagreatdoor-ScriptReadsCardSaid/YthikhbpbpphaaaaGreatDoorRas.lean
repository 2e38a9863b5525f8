/-
  Scripts: the first line, all lines, and the law ScriptReads, on plain data.
-/
import Derived.Test.YthikhbpbpphaaaaGreatDoorRar
set_option linter.unusedSimpArgs false
set_option linter.unusedVariables false
namespace Go.Proofs.YthikhbpbpphaaaaGreatDoor
open Go Go.Gm
def uk (L : Bytes) : Nat → Nat → List Int → Option (List Int × Nat)
 | 0,_,_ => none
 | f + 1,k,acc => if L[k]? = some 32 then
   match z8 L k with
   | none => none
   | some (n,k1) => if 0 ≤ n ∧ n < 4294967296 then uk L f k1 (acc ++ [n]) else none
  else some (acc,k)
def q06 (L : Bytes) : Option (List Int × Nat) := if (zy L 0).1 = [100,105,99,101] then uk L (L.length + 1) (zy L 0).2 [] else none
theorem q6d (b : Sl UInt8) (k : Nat) (hk : k ≤ b.l.length) (acc : List Int) : pg (PR b k false,acc) = some (PR b k false,acc) := by
 rw [pg.eq_1]
 rw [q45 b k false hk]
 simp
theorem qat (b : Sl UInt8) (hb : b.l.length ≤ 65536) : ∀ (f k : Nat) (acc : List Int),k ≤ b.l.length → b.l.length - k < f → acc.length ≤ k →
  ∃ v j ok',pg (PR b k true,acc) = some (PR b j ok',v) ∧ j ≤ b.l.length ∧ (ok' = true → uk b.l f k acc = some (v,j)) ∧ (uk b.l f k acc ≠ none → ok' = true)
 | 0,k,acc,hk,hf,ha => by omega
 | f + 1,k,acc,hk,hf,ha => by
  rw [pg.eq_1]
  rw [q45 b k true hk]
  simp only [Option.bind_eq_bind,Option.bind_some,Bool.true_and,decide_eq_true_eq]
  by_cases hc : b.l[k]? = some 32
  ·rw [if_pos hc]
   obtain ⟨n,j1,ok1,e1,l1,p1,q1⟩ := q2f b k true hb hk
   rw [e1]
   simp only [Option.bind_some]
   unfold uk
   rw [if_pos hc]
   cases ok1 with
   | false =>
    rw [if_neg (by simp [PR]),if_pos (jv (by omega) (by omega))]
    have e : T.qb.mk (PR b j1 false).place false = PR b j1 false := rfl
    rw [e,q6d b j1 l1]
    refine ⟨_,j1,false,rfl,l1,by simp,fun h => ?_⟩
    apply q1 rfl
    intro hn
    rw [hn] at h
    exact h rfl
   | true =>
    have h1 := (p1 rfl).2
    have g1 := xe h1
    rw [h1]
    simp only
    by_cases h0 : 0 ≤ n
    ·rw [if_pos (show ((PR b j1 true).ok_ && decide (n ≥ 0)) = true by simp [PR,h0]),if_pos (jv (by omega) (by omega))]
     by_cases h2 : n < 4294967296
     ·rw [if_pos ⟨h0,h2⟩]
      have e : T.qb.mk (PR b j1 true).place (decide (n < 4294967296)) = PR b j1 true := by
       rw [decide_eq_true h2]
       rfl
      rw [e,IntWalk.u32_in n ⟨h0,by omega⟩]
      exact qat b hb f j1 (acc ++ [n]) (by omega) (by omega) (by simp; omega)
     ·rw [if_neg (fun h => h2 h.2)]
      have e : T.qb.mk (PR b j1 true).place (decide (n < 4294967296)) = PR b j1 false := by
       rw [decide_eq_false h2]
       rfl
      rw [e,q6d b j1 l1]
      exact ⟨_,j1,false,rfl,l1,by simp,fun h => absurd rfl h⟩
    ·rw [if_neg (show ¬ ((PR b j1 true).ok_ && decide (n ≥ 0)) = true by simp [PR]; omega),if_pos (jv (by omega) (by omega)),if_neg (fun h => h0 h.1)]
     have e : T.qb.mk (PR b j1 true).place false = PR b j1 false := rfl
     rw [e,q6d b j1 l1]
     exact ⟨_,j1,false,rfl,l1,by simp,fun h => absurd rfl h⟩
  ·rw [if_neg hc]
   unfold uk
   rw [if_neg hc]
   exact ⟨acc,k,true,rfl,hk,fun _ => rfl,fun _ => rfl⟩
theorem qbg (b : Sl UInt8) (hb : b.l.length ≤ 65536) : ∀ (f k : Nat) (acc : List Int),k ≤ b.l.length → b.l.length - k < f → acc.length ≤ k →
  (∀ v j,uk b.l f k acc = some (v,j) → j ≤ b.l.length ∧ q0d (RR b k,acc) = some (.inr (RR b j,v))) ∧
  (uk b.l f k acc = none → (∃ v j q,q0d (RR b k,acc) = some (.inl (v,false,RR b j,q)) ∧ j ≤ b.l.length) ∨
   ∃ v j,q0d (RR b k,acc) = some (.inr (RR b j,v)) ∧ j ≤ b.l.length ∧ bad b.l j)
 | 0,k,acc,hk,hf,ha => by omega
 | f + 1,k,acc,hk,hf,ha => by
  rw [q0d.eq_1,q4r b k hk]
  simp only [Option.bind_eq_bind,Option.bind_some,decide_eq_true_eq]
  unfold uk
  by_cases hc : b.l[k]? = some 32
  ·rw [if_pos hc,if_pos hc]
   have n1 := tq b k hb hk
   cases h1 : z8 b.l k with
   | none =>
    simp only
    refine ⟨fun v j e => (by cases e),fun _ => ?_⟩
    obtain ⟨n,g,j,e1,e2,e3⟩ := n1.2 h1
    rw [e1]
    simp only [Option.bind_some]
    split
    ·exact Or.inl ⟨_,j,_,rfl,e2⟩
    ·rename_i hg
     have hgt : g = true := by
      cases g with
      | true => rfl
      | false => exact absurd rfl hg
     have hbd := e3 hgt
     right
     rw [if_pos (jv (by omega) (by omega))]
     have hx : ¬ b.l[j]? = some 32 := q23 hbd (by decide)
     rw [q0d.eq_1,q4r b j e2]
     simp only [Option.bind_eq_bind,Option.bind_some,decide_eq_true_eq]
     rw [if_neg hx]
     exact ⟨_,j,rfl,e2,hbd⟩
   | some m1 =>
    obtain ⟨n,k1⟩ := m1
    have g1 := xe h1
    rw [n1.1 n k1 h1]
    simp only [Option.bind_some,Bool.not_true,Bool.false_or]
    by_cases hr : 0 ≤ n ∧ n < 4294967296
    ·rw [if_pos hr,if_neg (by simp only [Bool.or_eq_true,decide_eq_true_eq]; omega),if_pos (jv (by omega) (by omega)),IntWalk.u32_in n ⟨hr.1,by omega⟩]
     exact qbg b hb f k1 (acc ++ [n]) (by omega) (by omega) (by simp; omega)
    ·rw [if_neg hr,if_pos (by simp only [Bool.or_eq_true,decide_eq_true_eq]; omega)]
     exact ⟨fun v j e => (by cases e),fun _ => Or.inl ⟨_,k1,_,rfl,g1.1⟩⟩
  ·rw [if_neg hc,if_neg hc]
   exact ⟨fun v j e => by (cases e; exact ⟨hk,rfl⟩),fun e => by cases e⟩
theorem qmj (b : Sl UInt8) (hb : b.l.length ≤ 65536) : ∃ v j ok',q5u (PR b 0 true) = some (⟨v.isEmpty,v⟩,PR b j ok') ∧ j ≤ b.l.length ∧ (ok' = true → yw b.l (q06 b.l) = some (v,j)) ∧ (yw b.l (q06 b.l) ≠ none → ok' = true) := by
 unfold q5u
 rw [qbu b 0 true hb (by omega)]
 have hw := q5x b.l 0 (by omega)
 unfold q06
 generalize (zy b.l 0).1 = w
 generalize (zy b.l 0).2 = m at hw
 simp only [Option.bind_eq_bind,Option.bind_some]
 by_cases hd : w = [100,105,99,101]
 ·have e : T.qb.mk (PR b m true).place (w == [100,105,99,101]) = PR b m true := by rw [hd]; rfl
  rw [e,if_pos hd]
  obtain ⟨v,j,ok1,e1,l1,p1,q1⟩ := qat b hb (b.l.length + 1) m [] hw (by omega) (by simp)
  rw [e1]
  simp only [Option.bind_some]
  have h := ni b hb v j ok1 l1 (uk b.l (b.l.length + 1) m []) p1 q1 _ rfl
  obtain ⟨v',j',ok',x1,x2,x3,x4⟩ := h
  cases ok1 with
  | false =>
   rw [if_neg (by simp [PR])] at x1
   cases x1
   rw [if_neg (by simp [PR])]
   exact ⟨v,j,false,rfl,l1,fun h => (x3 h).2,x4 rfl⟩
  | true =>
   rw [if_pos (show (PR b j true).ok_ = true from rfl)] at x1
   rw [if_pos (show (PR b j true).ok_ = true from rfl)]
   rw [q30 b j true 10 hb l1] at x1 ⊢
   simp only [Option.bind_eq_bind,Option.bind_some,Option.some.injEq,Prod.mk.injEq] at x1 ⊢
   refine ⟨v,j',ok',⟨rfl,x1.2⟩,x2,fun h => ?_,x4 rfl⟩
   rw [x1.1]
   exact (x3 h).2
 ·have e : T.qb.mk (PR b m true).place (w == [100,105,99,101]) = PR b m false := by
   have : (w == [100,105,99,101]) = false := by simpa using hd
   rw [this]
   rfl
  rw [e,if_neg hd,q6d b m hw]
  simp only [Option.bind_some]
  rw [if_neg (by simp [PR])]
  exact ⟨[],m,false,rfl,hw,by simp,fun h => absurd rfl h⟩
theorem qmr (b : Sl UInt8) (hb : b.l.length ≤ 65536) :
  (∀ v j,q06 b.l = some (v,j) → j ≤ b.l.length ∧ q44 (RR b 0) = some (⟨v.isEmpty,v⟩,true,RR b j)) ∧
  (q06 b.l = none → ∃ v g j,q44 (RR b 0) = some (v,g,RR b j) ∧ j ≤ b.l.length ∧ (g = true → bad b.l j)) := by
 unfold q44
 rw [qa7 b 0 hb (by omega)]
 have hw := q5x b.l 0 (by omega)
 unfold q06
 generalize (zy b.l 0).1 = w
 generalize (zy b.l 0).2 = m at hw
 simp only [Option.bind_eq_bind,Option.bind_some]
 by_cases hd : w = [100,105,99,101]
 ·rw [if_pos hd,if_neg (by rw [hd]; decide)]
  have n1 := qbg b hb (b.l.length + 1) m [] hw (by omega) (by simp)
  refine ⟨fun v j e => ?_,fun e => ?_⟩
  ·obtain ⟨l1,e1⟩ := n1.1 v j e
   rw [e1]
   exact ⟨l1,rfl⟩
  ·rcases n1.2 e with ⟨v,j,q,e1,l1⟩ | ⟨v,j,e1,l1,hbd⟩
   ·rw [e1]
    exact ⟨_,_,j,rfl,l1,by simp⟩
   ·rw [e1]
    exact ⟨_,_,j,rfl,l1,fun _ => hbd⟩
 ·have hb2 : (!(w == [100,105,99,101])) = true := by simpa using hd
  rw [if_neg hd,if_pos hb2]
  exact ⟨fun v j e => (by cases e),fun _ => ⟨_,_,m,rfl,hw,by simp⟩⟩
theorem qd8 (L : Bytes) : ∀ (f k : Nat) (acc v : List T.q9) (j : Nat),y9 L f k acc = some (v,j) → k ≤ j
 | 0,k,acc,v,j,h => by cases h
 | f + 1,k,acc,v,j,h => by
  unfold y9 at h
  split at h
  ·split at h
   ·cases h
   rename_i h1
   split at h
   ·cases h
   rename_i h2
   split at h
   ·cases h
   rename_i h3
   have := qd8 L f _ _ v j h
   have := xe h1
   have := xe h2
   have := mo h3
   omega
  ·cases h
   omega
theorem qd3 (L : Bytes) : ∀ (f k : Nat) (acc v : List T.Sel) (j : Nat),yl L f k acc = some (v,j) → k ≤ j
 | 0,k,acc,v,j,h => by cases h
 | f + 1,k,acc,v,j,h => by
  unfold yl at h
  split at h
  ·split at h
   ·cases h
   rename_i h1
   split at h
   ·cases h
   rename_i h2
   have := qd3 L f _ _ v j h
   have := xe h1
   have := xe h2
   omega
  ·cases h
   omega
theorem z09 {w L : Bytes} {k j : Nat} {o : T.Op} (h : q00 w L k = some (o,j)) : k ≤ j := by
 have ht : ∀ kd,q27 kd (zu L k) = some (o,j) → k ≤ j := by
  intro kd h
  unfold q27 at h
  split at h
  ·cases h
  ·rename_i h1
   cases h
   have := mo h1
   omega
 have hn : ∀ kd,q2l kd (z8 L k) = some (o,j) → k ≤ j := by
  intro kd h
  unfold q2l at h
  split at h
  ·cases h
  ·rename_i h1
   cases h
   have := xe h1
   omega
 unfold q00 at h
 split at h
 ·unfold q46 at h
  split at h
  ·cases h
  rename_i h1
  split at h
  ·cases h
  rename_i h2
  cases h
  have := mo h1
  have := mo h2
  omega
 split at h
 ·exact ht _ h
 split at h
 ·exact ht _ h
 split at h
 ·exact hn _ h
 split at h
 ·exact hn _ h
 split at h
 ·unfold bn at h
  split at h
  ·cases h
  rename_i h1
  split at h
  ·cases h
  rename_i h2
  cases h
  have := xe h1
  unfold u6 at h2
  split at h2
  ·split at h2
   ·cases h2; omega
   ·split at h2
    ·cases h2; omega
    ·cases h2
  ·cases h2
 split at h
 ·unfold q4f at h
  split at h
  ·cases h
  rename_i h1
  cases h
  exact qd8 _ _ _ _ _ _ h1
 split at h
 ·unfold q3o at h
  split at h
  ·cases h
  rename_i h1
  cases h
  exact qd3 _ _ _ _ _ _ h1
 split at h
 ·cases h
  omega
 ·cases h
theorem qzz {L : Bytes} {k j : Nat} {o : T.Op} (h : q3a L k = some (o,j)) : k < j := by
 unfold q3a yw at h
 split at h
 ·cases h
 ·rename_i h1
  split at h
  ·cases h
   have := z09 h1
   unfold zy at this
   simp only at this
   omega
  ·cases h
theorem qb5 (L : Bytes) : ∀ (f k : Nat) (acc v : List Int) (j : Nat),uk L f k acc = some (v,j) → acc.length ≤ k → v.length ≤ j
 | 0,k,acc,v,j,h,ha => by cases h
 | f + 1,k,acc,v,j,h,ha => by
  unfold uk at h
  split at h
  ·split at h
   ·cases h
   rename_i h1
   split at h
   ·have := xe h1
    exact qb5 L f _ _ v j h (by simp; omega)
   ·cases h
  ·cases h
   exact ha
theorem qba (L : Bytes) : ∀ (f k : Nat) (acc v : List T.q9) (j : Nat),y9 L f k acc = some (v,j) → acc.length ≤ k → k ≤ L.length → v.length ≤ L.length
 | 0,k,acc,v,j,h,ha,hk => by cases h
 | f + 1,k,acc,v,j,h,ha,hk => by
  unfold y9 at h
  split at h
  ·split at h
   ·cases h
   rename_i h1
   split at h
   ·cases h
   rename_i h2
   split at h
   ·cases h
   rename_i h3
   have := xe h1
   have := xe h2
   have := mo h3
   exact qba L f _ _ v j h (by simp; omega) (by omega)
  ·cases h
   omega
theorem qee (L : Bytes) : ∀ (f k : Nat) (acc v : List T.Sel) (j : Nat),yl L f k acc = some (v,j) → acc.length ≤ k → k ≤ L.length → v.length ≤ L.length
 | 0,k,acc,v,j,h,ha,hk => by cases h
 | f + 1,k,acc,v,j,h,ha,hk => by
  unfold yl at h
  split at h
  ·split at h
   ·cases h
   rename_i h1
   split at h
   ·cases h
   rename_i h2
   have := xe h1
   have := xe h2
   exact qee L f _ _ v j h (by simp; omega) (by omega)
  ·cases h
   omega
def small (n : Nat) (o : T.Op) : Prop := o.edits.l.length ≤ n ∧ o.sels.l.length ≤ n
theorem zgh {w L : Bytes} {k j : Nat} {o : T.Op} (hk : k ≤ L.length) (h : q00 w L k = some (o,j)) : small L.length o := by
 have ht : ∀ kd,q27 kd (zu L k) = some (o,j) → small L.length o := by
  intro kd h
  unfold q27 at h
  split at h
  ·cases h
  ·cases h
   exact ⟨by simp [noE],by simp [noS]⟩
 have hn : ∀ kd,q2l kd (z8 L k) = some (o,j) → small L.length o := by
  intro kd h
  unfold q2l at h
  split at h
  ·cases h
  ·cases h
   exact ⟨by simp [noE],by simp [noS]⟩
 unfold q00 at h
 split at h
 ·unfold q46 at h
  split at h
  ·cases h
  split at h
  ·cases h
  cases h
  exact ⟨by simp [noE],by simp [noS]⟩
 split at h
 ·exact ht _ h
 split at h
 ·exact ht _ h
 split at h
 ·exact hn _ h
 split at h
 ·exact hn _ h
 split at h
 ·unfold bn at h
  split at h
  ·cases h
  split at h
  ·cases h
  cases h
  exact ⟨by simp [noE],by simp [noS]⟩
 split at h
 ·unfold q4f at h
  split at h
  ·cases h
  rename_i h1
  cases h
  exact ⟨qba _ _ _ _ _ _ h1 (by simp) hk,by simp [noS]⟩
 split at h
 ·unfold q3o at h
  split at h
  ·cases h
  rename_i h1
  cases h
  exact ⟨by simp [noE],qee _ _ _ _ _ _ h1 (by simp) hk⟩
 split at h
 ·cases h
  exact ⟨by simp [noE],by simp [noS]⟩
 ·cases h
abbrev Rd := (Sl Int) × (Sl T.Op) × Int × Int
def qzs (n : Nat) (nums : Sl Int) (R : Rd) : Prop := (R.1 = nums ∨ R.1.l = []) ∧ R.2.1.l.length ≤ 1000 ∧ ∀ o ∈ R.2.1.l,small n o
def zbx (nums : Sl Int) (v : ((Sl Int) × (Sl T.Op) × Int × Int × Int × T.qb × (List T.Op)) ⊕ (Int × T.qb × (List T.Op))) : Option Rd :=
 match v with
 | .inl y6 => some (y6.1,y6.2.1,y6.2.2.1,y6.2.2.2.1)
 | .inr y7 =>
  if (!y7.2.1.ok_) then
   some ((⟨true,([] : List Int)⟩ : Sl Int),(⟨true,([] : List T.Op)⟩ : Sl T.Op),y7.1,(10 : Int))
  else
   some (nums,(⟨y7.2.2.isEmpty,y7.2.2⟩ : Sl T.Op),(0 : Int),(0 : Int))
def zf6 (nums : Sl Int) (v : ((Sl Int) × (Sl T.Op) × Int × Int × T.qf × (List T.Op)) ⊕ (T.qf × (List T.Op))) : Option Rd :=
 match v with
 | .inl y10 => some (y10.1,y10.2.1,y10.2.2.1,y10.2.2.2.1)
 | .inr y11 => some (nums,(⟨y11.2.isEmpty,y11.2⟩ : Sl T.Op),(0 : Int),(0 : Int))
theorem q7r (b : Sl UInt8) (nums : Sl Int) (line : Int) (j : Nat) (os : List T.Op) : q08 (b,nums,line,PR b j false,os) = some (.inr (line,PR b j false,os)) := by
 rw [q08.eq_1]
 rw [if_neg (by simp [PR])]
theorem qcj (b : Sl UInt8) (hb : b.l.length ≤ 65536) (nums : Sl Int) : ∀ (f k : Nat) (os : List T.Op) (line : Nat),k ≤ b.l.length → b.l.length - k < f → os.length ≤ 1000 → line + (b.l.length - k) < 1000000 → (∀ o ∈ os,small b.l.length o) →
  ∃ R,qzs b.l.length nums R ∧ (q08 (b,nums,(line : Int),PR b k true,os) >>= zbx nums) = some R ∧ (q3i (b,nums,((line + 1 : Nat) : Int),RR b k,os) >>= zf6 nums) = some R
 | 0,k,os,line,hk,hf,ho,hl,hsm => by omega
 | f + 1,k,os,line,hk,hf,ho,hl,hsm => by
  rw [q08.eq_1,q3i.eq_1]
  by_cases hkl : k < b.l.length
  ·rw [if_pos (show ((PR b k true).ok_ && decide ((PR b k true).place.at_ < (b.l.length : Int))) = true by simp [PR]; omega)]
   rw [if_pos (show decide ((RR b k).at_ < (b.l.length : Int)) = true by simp [RR]; omega)]
   obtain ⟨o,j,ok',e1,l1,p1,q1⟩ := pOp b k hb hk
   rw [e1]
   have hr := rOp b k hb hk
   simp only [Option.bind_eq_bind,Option.bind_some]
   rw [if_pos (jv (by omega) (by omega))]
   cases hs : q3a b.l k with
   | some x =>
    obtain ⟨o',j'⟩ := x
    have hok : ok' = true := q1 rfl (by rw [hs]; simp)
    subst hok
    have hx := (p1 rfl).2
    rw [hs] at hx
    cases hx
    have hlt := qzz hs
    unfold q3a yw at hs
    cases hbd : q00 (zy b.l k).1 b.l (zy b.l k).2 with
    | none => rw [hbd] at hs; cases hs
    | some y =>
     obtain ⟨oo,jj⟩ := y
     rw [hbd] at hs hr
     simp only at hs
     split at hs
     ·rename_i hnl
      cases hs
      have hjl := ym hnl
      rw [if_pos (show (PR b (jj + 1) true).ok_ = true from rfl)]
      by_cases h1000 : os.length = 1000
      ·rw [if_pos (by simp; omega)]
       refine ⟨_, ?_,rfl, ?_⟩
       ·exact ⟨Or.inr rfl,by simp,by simp⟩
       rw [hr.1 _ _ rfl hnl]
       simp only [Option.bind_some]
       rw [if_neg (by simp),q0n b jj 10 hb (by omega)]
       simp only [Option.bind_some]
       rw [if_pos hnl,if_neg (by simp [hnl]),if_pos (by simp; omega)]
       rw [ji (by omega)]
       rfl
      ·rw [if_neg (by simp; omega),hr.1 _ _ rfl hnl]
       simp only [Option.bind_some]
       rw [if_neg (by simp),q0n b jj 10 hb (by omega)]
       simp only [Option.bind_some]
       rw [if_pos hnl,if_neg (by simp [hnl]),if_neg (by simp; omega),if_pos (jv (by omega) (by omega))]
       rw [ji (by omega),ji (by omega)]
       exact qcj b hb nums f (jj + 1) (os ++ [o]) (line + 1) (by omega) (by omega) (by simp; omega) (by omega) (fun x hx => by
        rcases List.mem_append.mp hx with hx | hx
        ·exact hsm x hx
        ·rw [List.mem_singleton.mp hx]
         exact zgh (q5x b.l k hk) hbd)
     ·cases hs
   | none =>
    have hok : ok' = false := by
     cases ok' with
     | false => rfl
     | true =>
      have := (p1 rfl).2
      rw [hs] at this
      cases this
    subst hok
    rw [if_neg (by simp [PR]),q7r]
    refine ⟨_, ?_,rfl, ?_⟩
    ·exact ⟨Or.inr rfl,by simp,by simp⟩
    have hno : ∀ o j,q00 (zy b.l k).1 b.l (zy b.l k).2 = some (o,j) → ¬ b.l[j]? = some 10 := by
     intro o j e hnl
     unfold q3a yw at hs
     rw [e] at hs
     simp only at hs
     rw [if_pos hnl] at hs
     cases hs
    obtain ⟨o2,g,j2,e2,l2,p2⟩ := hr.2 hno
    rw [e2]
    simp only [Option.bind_some]
    cases g with
    | false =>
     rw [if_pos (by simp)]
     rw [ji (by omega)]
     rfl
    | true =>
     rw [if_neg (by simp),q0n b j2 10 hb l2]
     simp only [Option.bind_some]
     rw [if_pos (by simp [p2 rfl])]
     rw [ji (by omega)]
     rfl
  ·rw [if_neg (show ¬ ((PR b k true).ok_ && decide ((PR b k true).place.at_ < (b.l.length : Int))) = true by simp [PR]; omega)]
   rw [if_neg (show ¬ decide ((RR b k).at_ < (b.l.length : Int)) = true by simp [RR]; omega)]
   exact ⟨_,⟨Or.inl rfl,ho,hsm⟩,rfl,rfl⟩
theorem qib (b : Sl UInt8) : ∃ R,(R.1.l.length ≤ 65536 ∧ R.2.1.l.length ≤ 1000 ∧ ∀ o ∈ R.2.1.l,small 65536 o) ∧ q59 b = some R ∧ q5a b = some R := by
 unfold q59 q5a
 by_cases hb : (b.l.length : Int) > 65536
 ·rw [if_pos (by simpa using hb),if_pos (by simpa using hb)]
  exact ⟨_,⟨by simp,by simp,by simp⟩,rfl,rfl⟩
 ·rw [if_neg (by simpa using hb),if_neg (by simpa using hb)]
  have hb' : b.l.length ≤ 65536 := by omega
  have hp0 : T.qb.mk (T.kz.mk b (0 : Int)) true = PR b 0 true := rfl
  have hr0 : T.qf.mk b (0 : Int) = RR b 0 := rfl
  rw [hp0,hr0]
  obtain ⟨v,j,ok',e1,l1,p1,q1⟩ := qmj b hb'
  have hr := qmr b hb'
  rw [e1]
  simp only [Option.bind_eq_bind,Option.bind_some]
  cases hs : q06 b.l with
  | none =>
   have hok : ok' = false := by
    cases ok' with
    | false => rfl
    | true =>
     have := p1 rfl
     rw [hs] at this
     cases this
   subst hok
   rw [q7r]
   refine ⟨(⟨true,[]⟩,⟨true,[]⟩,1,10),⟨by simp,by simp,by simp⟩,rfl, ?_⟩
   obtain ⟨v2,g,j2,e2,l2,p2⟩ := hr.2 hs
   rw [e2]
   simp only [Option.bind_some]
   cases g with
   | false => rfl
   | true =>
    have hx : ¬ b.l[j2]? = some 10 := q23 (p2 rfl) (by decide)
    rw [if_neg (by simp),q0n b j2 10 hb' l2]
    simp only [Option.bind_some]
    rw [if_pos (by simp [hx])]
  | some x =>
   obtain ⟨v2,j2⟩ := x
   obtain ⟨l2,e2⟩ := hr.1 v2 j2 hs
   rw [e2]
   simp only [Option.bind_some]
   rw [if_neg (by simp),q0n b j2 10 hb' l2]
   simp only [Option.bind_some]
   by_cases hnl : b.l[j2]? = some 10
   ·have he : yw b.l (q06 b.l) = some (v2,j2 + 1) := by
     unfold yw
     rw [hs]
     exact if_pos hnl
    have hok : ok' = true := q1 (by rw [he]; simp)
    subst hok
    have hx := p1 rfl
    rw [he] at hx
    cases hx
    rw [if_neg (by simp [hnl]),if_pos hnl]
    obtain ⟨R,⟨f1,f2,f3⟩,x1,x2⟩ := qcj b hb' ⟨v.isEmpty,v⟩ (b.l.length + 1) (j2 + 1) [] 1 l1 (by omega) (by simp) (by omega) (by simp)
    refine ⟨R,⟨?_,f2,fun o ho => ⟨by have := (f3 o ho).1; omega,by have := (f3 o ho).2; omega⟩⟩,x1,x2⟩
    rcases f1 with h | h
    ·rw [h]
     have hs2 := hs
     unfold q06 at hs2
     split at hs2
     ·have := qb5 _ _ _ _ _ _ hs2 (by simp)
      simp only
      omega
     ·cases hs2
    ·rw [h]; simp
   ·have he : yw b.l (q06 b.l) = none := by
     unfold yw
     rw [hs]
     exact if_neg hnl
    have hok : ok' = false := by
     cases ok' with
     | false => rfl
     | true =>
      have := p1 rfl
      rw [he] at this
      cases this
    subst hok
    rw [q7r]
    refine ⟨(⟨true,[]⟩,⟨true,[]⟩,1,10),⟨by simp,by simp,by simp⟩,rfl, ?_⟩
    rw [if_pos (by simp [hnl])]
theorem qes (a : Sl Int) (ha : a.l.length < 1000000) : ∀ (r : List Int) (k : Nat),a.l.drop k = r → k ≤ a.l.length → q2i (a,a,(k : Int)) = some (.inr ())
 | [],k,hr,hk => by
  obtain ⟨h1,h2⟩ := drop_nil hr hk
  rw [q2i.eq_1,if_neg (by simp; omega)]
 | x :: r,k,hr,hk => by
  obtain ⟨h1,h2,h3,h4⟩ := drop_cons hr
  rw [q2i.eq_1,if_pos (by simp; omega),h1]
  simp only [Option.bind_eq_bind,Option.bind_some,bne_self_eq_false,Bool.false_eq_true,if_false]
  rw [ji (by omega)]
  exact qes a ha r (k + 1) h4 (by omega)
theorem qf1 (a : Sl Int) (ha : a.l.length < 1000000) : q63 a a = some true := by
 unfold q63
 rw [if_neg (by simp)]
 have := qes a ha a.l 0 rfl (by omega)
 rw [Int.natCast_zero] at this
 rw [this]
 rfl
theorem qb1 (a : Sl T.q9) (ha : a.l.length < 1000000) : ∀ (r : List T.q9) (k : Nat),a.l.drop k = r → k ≤ a.l.length → q1l (a,a,(k : Int)) = some (.inr ())
 | [],k,hr,hk => by
  obtain ⟨h1,h2⟩ := drop_nil hr hk
  rw [q1l.eq_1,if_neg (by simp; omega)]
 | x :: r,k,hr,hk => by
  obtain ⟨h1,h2,h3,h4⟩ := drop_cons hr
  rw [q1l.eq_1,if_pos (by simp; omega),h1]
  simp only [Option.bind_eq_bind,Option.bind_some,beq_self_eq_true,Bool.and_self,Bool.not_true,Bool.false_eq_true,if_false]
  rw [ji (by omega)]
  exact qb1 a ha r (k + 1) h4 (by omega)
theorem qji (a : Sl T.q9) (ha : a.l.length < 1000000) : q58 a a = some true := by
 unfold q58
 rw [if_neg (by simp)]
 have := qb1 a ha a.l 0 rfl (by omega)
 rw [Int.natCast_zero] at this
 rw [this]
 rfl
theorem qa8 (a : Sl T.Sel) (ha : a.l.length < 1000000) : ∀ (r : List T.Sel) (k : Nat),a.l.drop k = r → k ≤ a.l.length → q1u (a,a,(k : Int)) = some (.inr ())
 | [],k,hr,hk => by
  obtain ⟨h1,h2⟩ := drop_nil hr hk
  rw [q1u.eq_1,if_neg (by simp; omega)]
 | x :: r,k,hr,hk => by
  obtain ⟨h1,h2,h3,h4⟩ := drop_cons hr
  rw [q1u.eq_1,if_pos (by simp; omega),h1]
  simp only [Option.bind_eq_bind,Option.bind_some,beq_self_eq_true,Bool.and_self,Bool.not_true,Bool.false_eq_true,if_false]
  rw [ji (by omega)]
  exact qa8 a ha r (k + 1) h4 (by omega)
theorem qzr (a : Sl T.Sel) (ha : a.l.length < 1000000) : q4w a a = some true := by
 unfold q4w
 rw [if_neg (by simp)]
 have := qa8 a ha a.l 0 rfl (by omega)
 rw [Int.natCast_zero] at this
 rw [this]
 rfl
theorem q9z (a : Sl T.Op) (ha : a.l.length < 1000000) (hs : ∀ o ∈ a.l,o.edits.l.length < 1000000 ∧ o.sels.l.length < 1000000) : ∀ (r : List T.Op) (k : Nat),a.l.drop k = r → k ≤ a.l.length → q2e (a,a,(k : Int)) = some (.inr ())
 | [],k,hr,hk => by
  obtain ⟨h1,h2⟩ := drop_nil hr hk
  rw [q2e.eq_1,if_neg (by simp; omega)]
 | x :: r,k,hr,hk => by
  obtain ⟨h1,h2,h3,h4⟩ := drop_cons hr
  have hx := hs x (List.mem_of_getElem? h2)
  rw [q2e.eq_1,if_pos (by simp; omega),h1]
  simp only [Option.bind_eq_bind,Option.bind_some,bne_self_eq_false,beq_self_eq_true,Bool.not_true,Bool.or_self,Bool.false_eq_true,if_false]
  rw [qji _ hx.1,qzr _ hx.2]
  simp only [Option.bind_some,Bool.not_true,Bool.false_eq_true,if_false]
  rw [ji (by omega)]
  exact q9z a ha hs r (k + 1) h4 (by omega)
theorem same_eq (a : Sl T.Op) (ha : a.l.length < 1000000) (hs : ∀ o ∈ a.l,o.edits.l.length < 1000000 ∧ o.sels.l.length < 1000000) : q5q a a = some true := by
 unfold q5q
 rw [if_neg (by simp)]
 have := q9z a ha hs a.l 0 rfl (by omega)
 rw [Int.natCast_zero] at this
 rw [this]
 rfl
theorem z8d (b : Sl UInt8) : q66 b = some true := by
 unfold q66
 split
 ·rfl
 ·obtain ⟨R,⟨f1,f2,f3⟩,x1,x2⟩ := qib b
  rw [x1,x2]
  simp only [Option.bind_eq_bind,Option.bind_some]
  rw [qf1 _ (by omega)]
  simp only [Option.bind_some,if_true]
  rw [same_eq _ (by omega) (fun o ho => ⟨by have := (f3 o ho).1; omega,by have := (f3 o ho).2; omega⟩)]
  simp only [Option.bind_some,beq_self_eq_true,Bool.and_self,if_true]
  rfl
end Go.Proofs.YthikhbpbpphaaaaGreatDoor
