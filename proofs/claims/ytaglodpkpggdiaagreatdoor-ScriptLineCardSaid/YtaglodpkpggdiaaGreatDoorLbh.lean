/-
  Scripts: what stands behind other bytes is read as it is alone.
-/
import Derived.Test.YtaglodpkpggdiaaGreatDoorLbg
set_option linter.unusedSimpArgs false
set_option linter.unusedVariables false
namespace Go.Proofs.YtaglodpkpggdiaaGreatDoor
open Go Go.Gm
def mv {α : Type} (n : Nat) (s : Option (α × Nat)) : Option (α × Nat) := s.map fun p => (p.1,n + p.2)
theorem q7b {α : Type} {n : Nat} {c : Prop} [Decidable c] {a b : Option (α × Nat)} : mv n (if c then a else b) = if c then mv n a else mv n b := by split <;> rfl
theorem q0v (X B : Bytes) (k : Nat) : (X ++ B)[X.length + k]? = B[k]? := by
 rw [List.getElem?_append_right (by omega),Nat.add_sub_cancel_left]
theorem q9h (X B : Bytes) (k : Nat) : (X ++ B).drop (X.length + k) = B.drop k := by
 rw [← List.drop_drop,List.drop_left]
theorem ztr (X B : Bytes) (k : Nat) : zm (X ++ B) (X.length + k) = zm B k := by
 unfold zm
 rw [q9h]
theorem qd1 (X B : Bytes) (k : Nat) : jg (X ++ B) (X.length + k) = jg B k := by
 unfold jg
 rw [q0v]
theorem zfb (X B : Bytes) (k : Nat) : behind (X ++ B) (X.length + k) = X.length + behind B k := by
 unfold behind
 rw [qd1]
 split <;> omega
theorem qco (X B : Bytes) (k : Nat) : j6 (X ++ B) (X.length + k) = mv X.length (j6 B k) := by
 unfold j6
 rw [zfb,ztr,qd1,q0v]
 rw [q7b,q7b]
 simp only [mv,Option.map_some,Option.map_none,Nat.add_assoc]
theorem q5d (X B : Bytes) (k : Nat) : zu (X ++ B) (X.length + k) = mv X.length (zu B k) := by
 unfold zu
 rw [q0v,Nat.add_assoc,qco,q7b]
 rfl
theorem zso (X B : Bytes) (k : Nat) : wo (X ++ B) (X.length + k) = mv X.length (wo B k) := by
 unfold wo
 rw [qco]
 cases j6 B k with
 | none => rfl
 | some p =>
  obtain ⟨n,j⟩ := p
  simp only [mv,Option.map_some]
  rw [q0v]
  have e2 : (((X ++ B).length : Int) - ((X.length + j + 1 : Nat) : Int)) = (B.length : Int) - ((j + 1 : Nat) : Int) := by
   rw [List.length_append]; omega
  have e1 : X.length + j + 1 = X.length + (j + 1) := by omega
  rw [e2,e1,q9h]
  by_cases c : B[j]? = some 58 ∧ 0 ≤ n ∧ n ≤ (B.length : Int) - ((j + 1 : Nat) : Int)
  ·rw [if_pos c,if_pos c]
   simp [Nat.add_assoc]
  ·rw [if_neg c,if_neg c]
   rfl
theorem q96 (X B : Bytes) (k : Nat) : j4 (X ++ B) (X.length + k) = mv X.length (j4 B k) := by
 unfold j4
 rw [q0v,Nat.add_assoc,zso,q7b]
 rfl
theorem zj2 (X B : Bytes) (k : Nat) : tu (X ++ B) (X.length + k) = mv X.length (tu B k) := by
 unfold tu
 rw [q0v,Nat.add_assoc,q0v]
 by_cases c1 : B[k]? = some 32 <;> by_cases c2 : B[k + 1]? = some 49 <;> by_cases c3 : B[k + 1]? = some 48 <;> simp [c1,c2,c3,mv,Nat.add_assoc]
theorem qc8 (X B : Bytes) : ∀ (f k : Nat) (acc : List T.qb) (d : Nat),B.length - k < f → ui (X ++ B) (f + d) (X.length + k) acc = mv X.length (ui B f k acc)
 | 0,k,acc,d,h => by omega
 | f + 1,k,acc,d,h => by
  rw [show f + 1 + d = (f + d) + 1 by omega]
  unfold ui
  rw [q0v]
  by_cases c : B[k]? = some 32
  ·rw [if_pos c,if_pos c,q5d]
   cases h1 : zu B k with
   | none => rfl
   | some p1 =>
    obtain ⟨a,k1⟩ := p1
    simp only [mv,Option.map_some]
    rw [q5d]
    cases h2 : zu B k1 with
    | none => rfl
    | some p2 =>
     obtain ⟨b,k2⟩ := p2
     simp only [mv,Option.map_some]
     rw [q96]
     cases h3 : j4 B k2 with
     | none => rfl
     | some p3 =>
      obtain ⟨t,k3⟩ := p3
      simp only [mv,Option.map_some]
      have := uq h1
      have := uq h2
      have := q58 h3
      exact qc8 X B f k3 _ d (by omega)
  ·rw [if_neg c,if_neg c]
   rfl
theorem qfu (X B : Bytes) : ∀ (f k : Nat) (acc : List T.Sel) (d : Nat),B.length - k < f → ug (X ++ B) (f + d) (X.length + k) acc = mv X.length (ug B f k acc)
 | 0,k,acc,d,h => by omega
 | f + 1,k,acc,d,h => by
  rw [show f + 1 + d = (f + d) + 1 by omega]
  unfold ug
  rw [q0v]
  by_cases c : B[k]? = some 32
  ·rw [if_pos c,if_pos c,q5d]
   cases h1 : zu B k with
   | none => rfl
   | some p1 =>
    obtain ⟨a,k1⟩ := p1
    simp only [mv,Option.map_some]
    rw [q5d]
    cases h2 : zu B k1 with
    | none => rfl
    | some p2 =>
     obtain ⟨b,k2⟩ := p2
     simp only [mv,Option.map_some]
     have := uq h1
     have := uq h2
     exact qfu X B f k2 _ d (by omega)
  ·rw [if_neg c,if_neg c]
   rfl
theorem qi1 (n : Nat) (kd : Int) (s : Option (Bytes × Nat)) : q2x kd (mv n s) = mv n (q2x kd s) := by cases s <;> rfl
theorem qd7 (n : Nat) (kd : Int) (s : Option (Int × Nat)) : q3w kd (mv n s) = mv n (q3w kd s) := by cases s <;> rfl
theorem zwt (X B : Bytes) (k : Nat) : q2u (X ++ B) (X.length + k) = mv X.length (q2u B k) := by
 unfold q2u
 rw [q96]
 cases j4 B k with
 | none => rfl
 | some p =>
  obtain ⟨a,k1⟩ := p
  simp only [mv,Option.map_some]
  rw [q96]
  cases j4 B k1 with
  | none => rfl
  | some p => rfl
theorem qtq (X B : Bytes) (k : Nat) : nu (X ++ B) (X.length + k) = mv X.length (nu B k) := by
 unfold nu
 rw [q5d]
 cases zu B k with
 | none => rfl
 | some p =>
  obtain ⟨a,k1⟩ := p
  simp only [mv,Option.map_some]
  rw [zj2]
  cases tu B k1 with
  | none => rfl
  | some p => rfl
theorem zjq (X B : Bytes) (k : Nat) : q33 (X ++ B) (X.length + k) = mv X.length (q33 B k) := by
 unfold q33
 rw [show (X ++ B).length + 1 = (B.length + 1) + X.length by rw [List.length_append]; omega,qc8 X B _ _ _ _ (by omega)]
 cases ui B (B.length + 1) k [] with
 | none => rfl
 | some p => rfl
theorem qyq (X B : Bytes) (k : Nat) : q3g (X ++ B) (X.length + k) = mv X.length (q3g B k) := by
 unfold q3g
 rw [show (X ++ B).length + 1 = (B.length + 1) + X.length by rw [List.length_append]; omega,qfu X B _ _ _ _ (by omega)]
 cases ug B (B.length + 1) k [] with
 | none => rfl
 | some p => rfl
theorem qli (w X B : Bytes) (k : Nat) : yu w (X ++ B) (X.length + k) = mv X.length (yu w B k) := by
 unfold yu
 rw [zwt,q96,q5d,qtq,zjq,qyq,qi1,qi1,qd7,qd7]
 simp only [q7b]
 rfl
theorem znb {α : Type} (X B : Bytes) (s : Option (α × Nat)) : yg (X ++ B) (mv X.length s) = mv X.length (yg B s) := by
 cases s with
 | none => rfl
 | some p =>
  obtain ⟨o,j⟩ := p
  unfold yg
  simp only [mv,Option.map_some]
  rw [q0v]
  by_cases c : B[j]? = some 10
  ·rw [if_pos c,if_pos c]
   simp [Nat.add_assoc]
  ·rw [if_neg c,if_neg c]
   rfl
theorem zp3 (X B : Bytes) (k : Nat) : uz (X ++ B) (X.length + k) = mv X.length (uz B k) := by
 have hw : jv (X ++ B) (X.length + k) = ((jv B k).1,X.length + (jv B k).2) := by
  unfold jv
  rw [q9h,Nat.add_assoc]
 unfold uz
 rw [hw]
 simp only
 rw [qli,znb]
def q40 : List Bytes := [([100,105,99,101,10] : Bytes),([116,121,112,32,49,58,97,10] : Bytes),([116,121,112,101,32,50,58,97,10] : Bytes),([110,101,120,116,32,10] : Bytes),([101,114,97,115,101,32,32,49,10] : Bytes),([101,114,97,115,101,32,48,49,10] : Bytes),([101,114,97,115,101,32,45,48,10] : Bytes),([109,111,118,101,32,49,32,50,10] : Bytes),([101,100,105,116,32,49,32,50,10] : Bytes),([10] : Bytes),([115,101,116,32,49,58,97,10] : Bytes),([115,101,108,101,99,116,32,49,10] : Bytes),([117,110,100,111] : Bytes),([116,121,112,101,32,49,58,97] : Bytes),([99,104,111,111,115,101,32,49,50,51,52,53,54,55,56,57,48,49,50,51,52,53,54,55,56,57,10] : Bytes),([116,121,112,101,32,45,49,58,10] : Bytes),([101,114,97,115,101,32,43,49,10] : Bytes)]
theorem zwb : q40.all (fun x => decide (0 < x.length) && decide (x.length ≤ 100) && (uz x 0).isNone) = true := by decide
theorem qdl {x : Bytes} (h : x ∈ q40) : 0 < x.length ∧ x.length ≤ 100 ∧ uz x 0 = none := by
 have := List.all_eq_true.1 zwb x h
 simp only [Bool.and_eq_true,decide_eq_true_eq,Option.isNone_iff_eq_none] at this
 exact ⟨this.1.1,this.1.2,this.2⟩
theorem zuq {v : Int} (h0 : 0 ≤ v) (h : v < 17) : ∃ x,ql q40 v = some x ∧ x ∈ q40 := by
 obtain ⟨m,rfl⟩ : ∃ m : Nat,v = (m : Int) := ⟨v.toNat,by omega⟩
 have hl : q40.length = 17 := rfl
 cases hd : q40.drop m with
 | nil =>
  have := congrArg List.length hd
  simp only [List.length_drop,List.length_nil] at this
  omega
 | cons x r =>
  obtain ⟨g1,g2,g3,g4⟩ := drop_cons hd
  exact ⟨x,g1,List.mem_of_getElem? g2⟩
theorem qns {ns : List Int} {os : List T.Op} {x : Bytes} (hx : x ∈ q40) (hn : ∀ n ∈ ns,inU n) (ho : ∀ o ∈ os,Can o ∧ Texts o) (hl : os.length ≤ 1000) (hs : (jm ns os).length ≤ 65000) : q76 (jm ns os ++ x) = q5i (os.length + 2) 10 := by
 obtain ⟨b1,b2,b3⟩ := qdl hx
 obtain ⟨g,g1,g2,g3⟩ := qo6 x hn ho hl (by rw [List.length_append]; omega)
 rw [g2]
 cases g with
 | zero => omega
 | succ g =>
  rw [q1l,if_pos (by rw [List.length_append]; omega)]
  have := zp3 (jm ns os) x 0
  rw [Nat.add_zero,b3] at this
  rw [this]
  simp only [mv,Option.map_none]
  rw [show 1 + os.length + 1 = os.length + 2 by omega]
theorem zw5 (os : Sl T.Op) (which : Int) (ho : zw T.Op.ok os) (_hw : inI which) : q8r os which = some true := by
 unfold q8r
 obtain ⟨r,b1,b2⟩ := qr3 8 100 (by omega) (by omega) (by omega) os
 rw [b1]
 simp only [Option.bind_eq_bind,Option.bind_some]
 cases r with
 | true => rfl
 | false =>
  obtain ⟨b3,b4⟩ := b2 rfl
  rw [if_neg (by simp)]
  obtain ⟨l,l1,l2,l3⟩ := zp1 os (by omega) b4
  rw [l1]
  simp only [Option.bind_some]
  have hn : ∀ x ∈ [(7 : Int)],inU x := by
   intro x hx
   rw [List.mem_singleton.1 hx]
   exact ⟨by decide,by decide⟩
  have hsz := zl4 (ns := [(7 : Int)]) (by simp) hn (show l.length ≤ 8 by omega) l3
  rw [z8h (n := ⟨false,[(7 : Int)]⟩) (by simp) hn (fun o h => (l3 o h).1) (fun o h => qg0 (l3 o h).1 (l3 o h).2) (by omega) (show (jm [(7 : Int)] l).length ≤ 65536 by omega)]
  simp only [Option.bind_some]
  obtain ⟨v,v1,v2,v3⟩ := qdp which ((17 : Nat) : Int) (by decide) (by decide)
  rw [v1]
  simp only [Option.bind_some]
  obtain ⟨x,x1,x2⟩ := zuq v2 v3
  unfold q40 at x1
  rw [x1]
  simp only [Option.bind_some]
  have hb := qdl x2
  rw [if_pos (by omega),qhy]
  simp only [Option.bind_some]
  unfold q83
  rw [qhy]
  simp only [Option.bind_eq_bind,Option.bind_some]
  rw [qns x2 hn (fun o h => ⟨(l3 o h).1,(l3 o h).2.texts⟩) (by omega) (by omega)]
  unfold q5i
  simp only
  rw [if_pos (by decide)]
  simp only [Option.bind_some]
  have hw : IntKind.i64.wrap ((os.l.length : Int) + 2) = (os.l.length : Int) + 2 := xn
  rw [hw,if_pos (by simp; omega)]
  rfl
end Go.Proofs.YtaglodpkpggdiaaGreatDoor
