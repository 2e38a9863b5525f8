/-
  The law ScriptBack, on plain data.
-/
import Derived.Test.YtaglodpkpggdiaaGreatDoorAbg
set_option linter.unusedSimpArgs false
set_option linter.unusedVariables false
namespace Go.Proofs.YtaglodpkpggdiaaGreatDoor
open Go Go.Gm
theorem qeq (a b : Sl Int) (hab : a.l = b.l) (ha : a.l.length < 1000000) : ∀ (r : List Int) (k : Nat),a.l.drop k = r → k ≤ a.l.length → q43 (a,b,(k : Int)) = some (.inr ())
 | [],k,hr,hk => by
  obtain ⟨h1,h2⟩ := drop_nil hr hk
  rw [q43.eq_1,if_neg (by simp; omega)]
 | x :: r,k,hr,hk => by
  obtain ⟨h1,h2,h3,h4⟩ := drop_cons hr
  have h1' : ql b.l (k : Int) = some x := by rw [← hab]; exact h1
  rw [q43.eq_1,if_pos (by simp; omega),h1]
  simp only [Option.bind_eq_bind,Option.bind_some]
  rw [h1']
  simp only [Option.bind_some,bne_self_eq_false,Bool.false_eq_true,if_false]
  rw [j6 (by omega)]
  exact qeq a b hab ha r (k + 1) h4 (by omega)
theorem zdi (a b : Sl Int) (hab : a.l = b.l) (ha : a.l.length < 1000000) : q75 a b = some true := by
 unfold q75
 rw [if_neg (by rw [hab]; simp)]
 have := qeq a b hab ha a.l 0 rfl (by omega)
 rw [Int.natCast_zero] at this
 rw [this]
 rfl
theorem qec (a : Sl T.qb) (ha : a.l.length < 1000000) : ∀ (r : List T.qb) (k : Nat),a.l.drop k = r → k ≤ a.l.length → q3q (a,a,(k : Int)) = some (.inr ())
 | [],k,hr,hk => by
  obtain ⟨h1,h2⟩ := drop_nil hr hk
  rw [q3q.eq_1,if_neg (by simp; omega)]
 | x :: r,k,hr,hk => by
  obtain ⟨h1,h2,h3,h4⟩ := drop_cons hr
  rw [q3q.eq_1,if_pos (by simp; omega),h1]
  simp only [Option.bind_eq_bind,Option.bind_some,beq_self_eq_true,Bool.and_self,Bool.not_true,Bool.false_eq_true,if_false]
  rw [j6 (by omega)]
  exact qec a ha r (k + 1) h4 (by omega)
theorem qvb (a : Sl T.qb) (ha : a.l.length < 1000000) : q6w a a = some true := by
 unfold q6w
 rw [if_neg (by simp)]
 have := qec a ha a.l 0 rfl (by omega)
 rw [Int.natCast_zero] at this
 rw [this]
 rfl
theorem qei (a : Sl T.Sel) (ha : a.l.length < 1000000) : ∀ (r : List T.Sel) (k : Nat),a.l.drop k = r → k ≤ a.l.length → q2w (a,a,(k : Int)) = some (.inr ())
 | [],k,hr,hk => by
  obtain ⟨h1,h2⟩ := drop_nil hr hk
  rw [q2w.eq_1,if_neg (by simp; omega)]
 | x :: r,k,hr,hk => by
  obtain ⟨h1,h2,h3,h4⟩ := drop_cons hr
  rw [q2w.eq_1,if_pos (by simp; omega),h1]
  simp only [Option.bind_eq_bind,Option.bind_some,beq_self_eq_true,Bool.and_self,Bool.not_true,Bool.false_eq_true,if_false]
  rw [j6 (by omega)]
  exact qei a ha r (k + 1) h4 (by omega)
theorem qud (a : Sl T.Sel) (ha : a.l.length < 1000000) : q6o a a = some true := by
 unfold q6o
 rw [if_neg (by simp)]
 have := qei a ha a.l 0 rfl (by omega)
 rw [Int.natCast_zero] at this
 rw [this]
 rfl
theorem qig (a : Sl T.Op) (ha : a.l.length < 1000000) (hs : ∀ o ∈ a.l,o.edits.l.length < 1000000 ∧ o.sels.l.length < 1000000) : ∀ (r : List T.Op) (k : Nat),a.l.drop k = r → k ≤ a.l.length → q3f (a,a,(k : Int)) = some (.inr ())
 | [],k,hr,hk => by
  obtain ⟨h1,h2⟩ := drop_nil hr hk
  rw [q3f.eq_1,if_neg (by simp; omega)]
 | x :: r,k,hr,hk => by
  obtain ⟨h1,h2,h3,h4⟩ := drop_cons hr
  have hx := hs x (List.mem_of_getElem? h2)
  rw [q3f.eq_1,if_pos (by simp; omega),h1]
  simp only [Option.bind_eq_bind,Option.bind_some,bne_self_eq_false,beq_self_eq_true,Bool.not_true,Bool.or_self,Bool.false_eq_true,if_false]
  rw [qvb _ hx.1,qud _ hx.2]
  simp only [Option.bind_some,Bool.not_true,Bool.false_eq_true,if_false]
  rw [j6 (by omega)]
  exact qig a ha hs r (k + 1) h4 (by omega)
theorem same_eq (a : Sl T.Op) (ha : a.l.length < 1000000) (hs : ∀ o ∈ a.l,o.edits.l.length < 1000000 ∧ o.sels.l.length < 1000000) : q7f a a = some true := by
 unfold q7f
 rw [if_neg (by simp)]
 have := qig a ha hs a.l 0 rfl (by omega)
 rw [Int.natCast_zero] at this
 rw [this]
 rfl
theorem zj6 (n : Sl Int) (os : Sl T.Op) (b : Sl UInt8) (hn : zo inU n) (ho : zo T.Op.ok os) (_hb : zo xx b) : q9o n os b = some true := by
 unfold q9o
 split
 ·rfl
 rename_i h10
 obtain ⟨r,b1,b2⟩ := zpe 8 150 (by omega) (by omega) (by omega) os
 rw [b1]
 simp only [Option.bind_eq_bind,Option.bind_some]
 split
 ·rfl
 rename_i hc
 simp only [Bool.or_eq_true,decide_eq_true_eq,not_or] at hc
 obtain ⟨c1,c2⟩ := hc
 obtain ⟨b3,b4⟩ := b2 (by simpa using c1)
 have hn10 : n.l.length ≤ 10 := by simp at h10; omega
 obtain ⟨l,l1,l2,l3⟩ := zde os (by omega) b4
 rw [l1]
 simp only [Option.bind_some]
 have hl8 : l.length ≤ 8 := by omega
 have hsz := qnt hn10 hn.2 hl8 l3
 rw [qf6 (by omega) hn.2 (fun o h => (l3 o h).1) (fun o h => qhr (l3 o h).1 (l3 o h).2) (by omega) (by omega)]
 simp only [Option.bind_some]
 rw [qg8]
 simp only [Option.bind_some]
 rw [qr3 hn.2 (fun o h => ⟨(l3 o h).1,(l3 o h).2.texts⟩) (by omega) (by omega)]
 simp only [Option.bind_some]
 rw [if_neg (by simp),zdi n ⟨n.l.isEmpty,n.l⟩ rfl (by omega)]
 simp only [Option.bind_some,Bool.not_true,Bool.false_eq_true,if_false]
 rw [same_eq ⟨l.isEmpty,l⟩ (by simp only; omega) (fun o h => ⟨by have := (l3 o h).2.2.2.1; omega,by have := (l3 o h).2.2.2.2.2; omega⟩)]
 simp only [Option.bind_some,Bool.not_true,Bool.false_eq_true,if_false]
 rw [qg8 b]
 simp only [Option.bind_some]
 have hb : b.l.length ≤ 150 := by omega
 rcases qwq b.l (by omega) with ⟨ns,ops,r1,r2,r3,r4,r5⟩ | ⟨ln,e,r1,r2,r3⟩
 ·rw [r1]
  simp only
  have hsh : (jc ns ops).length ≤ 150 := by rw [← r2]; exact hb
  have hsh2 := hsh
  rw [q7r] at hsh2
  have hge : ∀ l : List Int,l.length ≤ (nuB l).length := by
   intro l
   induction l with
   | nil => simp
   | cons n l ih =>
    rw [q36,mg]
    simp only [List.length_append,List.length_cons]
    omega
  have := hge ns
  rw [if_neg (by simp),qf6 (n := ⟨ns.isEmpty,ns⟩) (by simp only; omega) r3 r4 (fun o h => x0u (r4 o h) (by have := z7u h; omega)) r5 (show (jc ns ops).length ≤ 65536 by omega)]
  simp only [Option.bind_some]
  rw [if_pos (by simp),if_pos (by rw [r2]; simp)]
  rfl
 ·rw [r1]
  unfold q4j
  simp only
  rw [if_pos (by simpa using r3),if_pos (by simp; omega)]
  rfl
end Go.Proofs.YtaglodpkpggdiaaGreatDoor
