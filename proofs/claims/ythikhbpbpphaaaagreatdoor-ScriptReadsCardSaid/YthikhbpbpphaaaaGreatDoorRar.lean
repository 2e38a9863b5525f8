/-
  Scripts: the document's operation.
-/
import Derived.Test.YthikhbpbpphaaaaGreatDoorRaq
set_option linter.unusedSimpArgs false
set_option linter.unusedVariables false
namespace Go.Proofs.YthikhbpbpphaaaaGreatDoor
open Go Go.Gm
def idx (w : Bytes) : List Bytes → Nat → Int ⊕ Unit
 | [],_ => .inr ()
 | x :: r,k => if x = w then .inl (k : Int) else idx w r (k + 1)
theorem qev (w : Bytes) (l : List Bytes) (hl : l.length < 100) : ∀ (r : List Bytes) (k : Nat),l.drop k = r → k ≤ l.length → q0f (w,⟨false,l⟩,(k : Int)) = some (idx w r k)
 | [],k,hr,hk => by
  obtain ⟨h1,h2⟩ := drop_nil hr hk
  rw [q0f.eq_1,if_neg (by simp; omega)]
  rfl
 | x :: r,k,hr,hk => by
  obtain ⟨h1,h2,h3,h4⟩ := drop_cons hr
  rw [q0f.eq_1,if_pos (by simp; omega),h1]
  simp only [Option.bind_eq_bind,Option.bind_some,beq_iff_eq]
  unfold idx
  split
  ·rfl
  ·rw [ji (by omega)]
   exact qev w l hl r (k + 1) h4 (by omega)
def names : List Bytes := [([] : Bytes),([115,101,116] : Bytes),([116,121,112,101] : Bytes),([101,114,97,115,101] : Bytes),([101,100,105,116] : Bytes),([115,101,108,101,99,116] : Bytes),([109,111,118,101] : Bytes),([105,110,115,101,114,116] : Bytes),([110,101,120,116] : Bytes),([112,114,101,118] : Bytes),([108,101,97,118,101] : Bytes),([99,104,111,111,115,101] : Bytes),([117,110,100,111] : Bytes),([114,101,100,111] : Bytes)]
def kindOf (w : Bytes) : Int := match idx w (names.drop 1) 1 with | .inl k => k | .inr _ => 0
theorem qta (w : Bytes) : q5h w = some (kindOf w) := by
 have h := qev w names (by decide) (names.drop 1) 1 rfl (by decide)
 unfold q5h q6h
 simp only [Option.bind_eq_bind,Option.bind_some]
 have h' : q0f (w,⟨false,names⟩,(1 : Int)) = some (idx w (names.drop 1) 1) := h
 unfold names at h'
 rw [h']
 simp only [Option.bind_some]
 unfold kindOf names
 split <;> rename_i e <;> rw [e]
def RG (b : Sl UInt8) (s : Option (T.Op × Nat)) (x : Option (T.Op × Bool × T.qf)) : Prop :=
 (∀ o j,s = some (o,j) → b.l[j]? = some 10 → x = some (o,true,RR b j)) ∧
 ((∀ o j,s = some (o,j) → ¬ b.l[j]? = some 10) → ∃ o g j,x = some (o,g,RR b j) ∧ j ≤ b.l.length ∧ (g = true → ¬ b.l[j]? = some 10))
theorem q0h {b : Sl UInt8} {o : T.Op} {j : Nat} {x : Option (T.Op × Bool × T.qf)} (hx : x = some (o,true,RR b j)) (hj : j ≤ b.l.length) : RG b (some (o,j)) x :=
 ⟨fun o' j' e _ => by (cases e; exact hx),fun h => ⟨o,true,j,hx,hj,fun _ => h o j rfl⟩⟩
theorem rNo {b : Sl UInt8} {o : T.Op} {g : Bool} {j : Nat} {x : Option (T.Op × Bool × T.qf)} (hx : x = some (o,g,RR b j)) (hj : j ≤ b.l.length) (hg : g = true → bad b.l j) : RG b none x :=
 ⟨fun o' j' e _ => (by cases e),fun _ => ⟨o,g,j,hx,hj,fun h => q23 (hg h) (by decide)⟩⟩
theorem rOp (b : Sl UInt8) (k : Nat) (hb : b.l.length ≤ 65536) (hk : k ≤ b.l.length) : RG b (q00 (zy b.l k).1 b.l (zy b.l k).2) (q5k (RR b k)) := by
 unfold q5k
 rw [qa7 b k hb hk]
 have hw := q5x b.l k hk
 generalize (zy b.l k).1 = w
 generalize (zy b.l k).2 = m at hw
 simp only [Option.bind_eq_bind,Option.bind_some]
 rw [qta]
 simp only [Option.bind_some]
 unfold q00
 by_cases c1 : w = [115,101,116]
 ·have hkd : kindOf w = 1 := by rw [c1]; rfl
  rw [hkd,if_pos c1,if_pos (by decide)]
  unfold q46
  have n1 := q4b b m hb hw
  cases h1 : zu b.l m with
  | none =>
   obtain ⟨t,j,e1,e2⟩ := n1.2 h1
   rw [e1]
   exact rNo rfl e2 (by simp)
  | some m1 =>
   obtain ⟨a,k1⟩ := m1
   have g1 := mo h1
   rw [n1.1 a k1 h1]
   simp only [Option.bind_some,if_true]
   have n2 := q4b b k1 hb g1.1
   cases h2 : zu b.l k1 with
   | none =>
    obtain ⟨t,j,e1,e2⟩ := n2.2 h2
    rw [e1]
    exact rNo rfl e2 (by simp)
   | some m2 =>
    obtain ⟨t,k2⟩ := m2
    have g2 := mo h2
    rw [n2.1 t k2 h2]
    exact q0h rfl g2.1
 rw [if_neg c1]
 by_cases c2 : w = [116,121,112,101]
 ·have hkd : kindOf w = 2 := by rw [c2]; rfl
  rw [hkd,if_pos c2,if_neg (by decide),if_pos (by decide)]
  have n1 := q4b b m hb hw
  cases h1 : zu b.l m with
  | none =>
   obtain ⟨t,j,e1,e2⟩ := n1.2 h1
   rw [e1]
   exact rNo rfl e2 (by simp)
  | some m1 =>
   obtain ⟨a,k1⟩ := m1
   have g1 := mo h1
   rw [n1.1 a k1 h1]
   exact q0h rfl g1.1
 rw [if_neg c2]
 by_cases c3 : w = [105,110,115,101,114,116]
 ·have hkd : kindOf w = 7 := by rw [c3]; rfl
  rw [hkd,if_pos c3,if_neg (by decide),if_pos (by decide)]
  have n1 := q4b b m hb hw
  cases h1 : zu b.l m with
  | none =>
   obtain ⟨t,j,e1,e2⟩ := n1.2 h1
   rw [e1]
   exact rNo rfl e2 (by simp)
  | some m1 =>
   obtain ⟨a,k1⟩ := m1
   have g1 := mo h1
   rw [n1.1 a k1 h1]
   exact q0h rfl g1.1
 rw [if_neg c3]
 by_cases c4 : w = [101,114,97,115,101]
 ·have hkd : kindOf w = 3 := by rw [c4]; rfl
  rw [hkd,if_pos c4,if_neg (by decide),if_neg (by decide),if_pos (by decide)]
  have n1 := tq b m hb hw
  cases h1 : z8 b.l m with
  | none =>
   obtain ⟨t,g,j,e1,e2,e3⟩ := n1.2 h1
   rw [e1]
   cases g with
   | true => exact rNo rfl e2 (fun _ => e3 rfl)
   | false => exact rNo rfl e2 (by simp)
  | some m1 =>
   obtain ⟨a,k1⟩ := m1
   have g1 := xe h1
   rw [n1.1 a k1 h1]
   exact q0h rfl g1.1
 rw [if_neg c4]
 by_cases c5 : w = [99,104,111,111,115,101]
 ·have hkd : kindOf w = 11 := by rw [c5]; rfl
  rw [hkd,if_pos c5,if_neg (by decide),if_neg (by decide),if_pos (by decide)]
  have n1 := tq b m hb hw
  cases h1 : z8 b.l m with
  | none =>
   obtain ⟨t,g,j,e1,e2,e3⟩ := n1.2 h1
   rw [e1]
   cases g with
   | true => exact rNo rfl e2 (fun _ => e3 rfl)
   | false => exact rNo rfl e2 (by simp)
  | some m1 =>
   obtain ⟨a,k1⟩ := m1
   have g1 := xe h1
   rw [n1.1 a k1 h1]
   exact q0h rfl g1.1
 rw [if_neg c5]
 by_cases c6 : w = [109,111,118,101]
 ·have hkd : kindOf w = 6 := by rw [c6]; rfl
  rw [hkd,if_pos c6,if_neg (by decide),if_neg (by decide),if_neg (by decide),if_pos (by decide)]
  unfold bn
  have n1 := tq b m hb hw
  cases h1 : z8 b.l m with
  | none =>
   obtain ⟨t,g,j,e1,e2,e3⟩ := n1.2 h1
   rw [e1]
   simp only [Option.bind_some]
   cases g with
   | true =>
    rw [if_pos rfl,q7j b j hb (e3 rfl)]
    exact rNo rfl e2 (by simp)
   | false => exact rNo rfl e2 (by simp)
  | some m1 =>
   obtain ⟨a,k1⟩ := m1
   have g1 := xe h1
   rw [n1.1 a k1 h1]
   simp only [Option.bind_some,if_true]
   have n2 := tq b k1 hb g1.1
   have hfl : ∀ x k2,u6 b.l k1 = some (x,k2) → b.l[k2]? = some 10 → z8 b.l k1 = some (if x then 1 else 0,k2) := by
    intro x k2 e hnl
    unfold u6 at e
    split at e
    ·rename_i q1
     unfold z8
     rw [if_pos q1]
     split at e
     ·rename_i q2
      cases e
      exact qcd q2 (Or.inr rfl) hnl
     ·split at e
      ·rename_i q3
       cases e
       exact qcd q3 (Or.inl rfl) hnl
      ·cases e
    ·cases e
   cases h2 : z8 b.l k1 with
   | none =>
    obtain ⟨n2',g,j,e1,e2,e3⟩ := n2.2 h2
    rw [e1]
    simp only [Option.bind_some]
    have hno : ∀ o j',(match u6 b.l k1 with | none => none | some (x,k2) => some (T.Op.mk 6 [] [] a x noE noS,k2)) = some (o,j') → ¬ b.l[j']? = some 10 := by
     intro o j' e hnl
     cases hf : u6 b.l k1 with
     | none => rw [hf] at e; cases e
     | some q =>
      obtain ⟨x,k2⟩ := q
      rw [hf] at e
      cases e
      have := hfl x _ hf hnl
      rw [h2] at this
      cases this
    refine ⟨fun o j' e hnl => absurd hnl (hno o j' e),fun _ => ?_⟩
    split
    ·rename_i hc
     have hg : g = true := by
      simp only [Bool.and_eq_true] at hc
      exact hc.1
     exact ⟨_,_,j,rfl,e2,fun _ => q23 (e3 hg) (by decide)⟩
    ·exact ⟨_,_,j,rfl,e2,by simp⟩
   | some m2 =>
    obtain ⟨n2',j⟩ := m2
    have g2 := xe h2
    rw [n2.1 n2' j h2]
    simp only [Option.bind_some,Bool.true_and,Bool.or_eq_true,beq_iff_eq]
    have h2' : b.l[k1]? = some 32 ∧ zl b.l (k1 + 1) = some (n2',j) := by
     unfold z8 at h2
     split at h2
     ·exact ⟨by assumption,h2⟩
     ·cases h2
    by_cases hn : n2' = 0 ∨ n2' = 1
    ·rw [if_pos hn]
     obtain ⟨hj,hcase⟩ := zj2 h2'.2 hn
     have hf : u6 b.l k1 = some ((n2' == 1),j) := by
      unfold u6
      rw [if_pos h2'.1]
      rcases hcase with ⟨q1,q2⟩ | ⟨q1,q2⟩
      ·rw [if_neg (by rw [q1]; decide),if_pos q1,q2,hj]; rfl
      ·rw [if_pos q1,q2,hj]; rfl
     rw [hf]
     exact q0h rfl g2.1
    ·rw [if_neg hn]
     refine ⟨fun o j' e hnl => ?_,fun _ => ⟨_,_,_,rfl,g2.1,by simp⟩⟩
     exfalso
     cases hf : u6 b.l k1 with
     | none => rw [hf] at e; cases e
     | some q =>
      obtain ⟨x,k2⟩ := q
      rw [hf] at e
      cases e
      have := hfl x _ hf hnl
      rw [h2] at this
      cases this
      apply hn
      cases x <;> simp
 rw [if_neg c6]
 by_cases c7 : w = [101,100,105,116]
 ·have hkd : kindOf w = 4 := by rw [c7]; rfl
  rw [hkd,if_pos c7,if_neg (by decide),if_neg (by decide),if_neg (by decide),if_neg (by decide),if_pos (by decide)]
  unfold q4f
  have n1 := qdv b hb (T.Op.mk (0 : Int) ([] : Bytes) ([] : Bytes) (0 : Int) false (⟨true,([] : List T.q9)⟩ : (Sl T.q9)) (⟨true,([] : List T.Sel)⟩ : (Sl T.Sel))) 4 [] [] 0 false (⟨true,([] : List T.Sel)⟩ : Sl T.Sel) (b.l.length + 1) m [] hw (by omega) (by simp)
  cases h1 : y9 b.l (b.l.length + 1) m [] with
  | none =>
   obtain ⟨g,j,v,e1,e2,e3⟩ := n1.2 h1
   rw [e1]
   cases g with
   | true => exact rNo rfl e2 (fun _ => e3 rfl)
   | false => exact rNo rfl e2 (by simp)
  | some m1 =>
   obtain ⟨v,j⟩ := m1
   obtain ⟨e1,e2⟩ := n1.1 v j h1
   rw [e2]
   exact q0h rfl e1
 rw [if_neg c7]
 by_cases c8 : w = [115,101,108,101,99,116]
 ·have hkd : kindOf w = 5 := by rw [c8]; rfl
  rw [hkd,if_pos c8,if_neg (by decide),if_neg (by decide),if_neg (by decide),if_neg (by decide),if_neg (by decide),if_pos (by decide)]
  unfold q3o
  have n1 := qb7 b hb (T.Op.mk (0 : Int) ([] : Bytes) ([] : Bytes) (0 : Int) false (⟨true,([] : List T.q9)⟩ : (Sl T.q9)) (⟨true,([] : List T.Sel)⟩ : (Sl T.Sel))) 5 [] [] 0 false (⟨true,([] : List T.q9)⟩ : Sl T.q9) (b.l.length + 1) m [] hw (by omega) (by simp)
  cases h1 : yl b.l (b.l.length + 1) m [] with
  | none =>
   obtain ⟨g,j,v,e1,e2,e3⟩ := n1.2 h1
   rw [e1]
   cases g with
   | true => exact rNo rfl e2 (fun _ => e3 rfl)
   | false => exact rNo rfl e2 (by simp)
  | some m1 =>
   obtain ⟨v,j⟩ := m1
   obtain ⟨e1,e2⟩ := n1.1 v j h1
   rw [e2]
   exact q0h rfl e1
 rw [if_neg c8]
 have hrest : kindOf w = jm w ∧ (jm w = 0 ∨ jm w = 8 ∨ jm w = 9 ∨ jm w = 10 ∨ jm w = 12 ∨ jm w = 13) := by
  by_cases d1 : w = [110,101,120,116]
  ·subst d1; exact ⟨rfl,by decide⟩
  by_cases d2 : w = [112,114,101,118]
  ·subst d2; exact ⟨rfl,by decide⟩
  by_cases d3 : w = [108,101,97,118,101]
  ·subst d3; exact ⟨rfl,by decide⟩
  by_cases d4 : w = [117,110,100,111]
  ·subst d4; exact ⟨rfl,by decide⟩
  by_cases d5 : w = [114,101,100,111]
  ·subst d5; exact ⟨rfl,by decide⟩
  have hp : jm w = 0 := by
   unfold jm
   rw [if_neg d1,if_neg d2,if_neg d3,if_neg d4,if_neg d5]
  have hi : idx w (names.drop 1) 1 = .inr () := by
   simp only [names,List.drop_succ_cons,List.drop_zero,idx]
   rw [if_neg (Ne.symm c1),if_neg (Ne.symm c2),if_neg (Ne.symm c4),if_neg (Ne.symm c7),if_neg (Ne.symm c8),if_neg (Ne.symm c6),if_neg (Ne.symm c3),if_neg (Ne.symm d1),if_neg (Ne.symm d2),if_neg (Ne.symm d3),if_neg (Ne.symm c5),if_neg (Ne.symm d4),if_neg (Ne.symm d5)]
  refine ⟨?_,Or.inl hp⟩
  unfold kindOf
  rw [hi,hp]
 rw [hrest.1]
 have hh := hrest.2
 generalize jm w = p at hh
 rcases hh with rfl | rfl | rfl | rfl | rfl | rfl
 ·exact rNo rfl hw (by simp)
 all_goals exact q0h rfl hw
end Go.Proofs.YthikhbpbpphaaaaGreatDoor
