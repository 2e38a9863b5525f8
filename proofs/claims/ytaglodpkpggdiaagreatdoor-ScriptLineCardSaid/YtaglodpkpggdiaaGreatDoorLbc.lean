/-
  How much operations are: what the laws let in.
-/
import Derived.Test.YtaglodpkpggdiaaGreatDoorLar
set_option linter.unusedSimpArgs false
set_option linter.unusedVariables false
namespace Go.Proofs.YtaglodpkpggdiaaGreatDoor
open Go Go.Gm
theorem zqh (n : Int) (hn : -1000 ≤ n ∧ n ≤ 1000) (a b : Bytes) : ∃ r,q7m n [a,b] = some r ∧ (r = false → (a.length : Int) < n ∧ (b.length : Int) < n) := by
 unfold q7m
 rw [q3h.eq_1,if_pos (by simp),show ql [a,b] (0 : Int) = some a from rfl]
 simp only [Option.bind_eq_bind,Option.bind_some]
 by_cases h1 : (a.length : Int) ≥ n
 ·rw [if_pos (by simpa using h1)]
  exact ⟨true,rfl,by simp⟩
 rw [if_neg (by simpa using h1),xn (n := n - (a.length : Int)),xn (n := n - (a.length : Int) - 1),xn (n := 0 + 1)]
 rw [q3h.eq_1,if_pos (by simp),show ql [a,b] ((0 : Int) + 1) = some b from rfl]
 simp only [Option.bind_eq_bind,Option.bind_some]
 by_cases h2 : (b.length : Int) ≥ n - (a.length : Int) - 1
 ·rw [if_pos (by simpa using h2)]
  exact ⟨true,rfl,by simp⟩
 rw [if_neg (by simpa using h2),xn (n := n - (a.length : Int) - 1 - (b.length : Int)),xn (n := n - (a.length : Int) - 1 - (b.length : Int) - 1),xn (n := 0 + 1 + 1)]
 rw [q3h.eq_1,if_neg (by simp)]
 exact ⟨false,rfl,fun _ => by omega⟩
def xx (l : List T.qb) : Nat := (l.map fun e => e.text.length).sum
theorem q5a (e : T.qb) (l : List T.qb) : xx (e :: l) = e.text.length + xx l := by simp [xx]
theorem qhb {l : List T.qb} {e : T.qb} (h : e ∈ l) : e.text.length ≤ xx l := by
 induction l with
 | nil => cases h
 | cons x r ih =>
  rw [q5a]
  rcases List.mem_cons.1 h with rfl | h
  ·omega
  ·have := ih h
   omega
theorem qhm (es : Sl T.qb) (hl : es.l.length ≤ 1000) : ∀ (l : List T.qb) (k : Nat) (n : Int),es.l.drop k = l → k ≤ es.l.length → -1000 ≤ n → n ≤ 1000 →
  ∃ r,q0f (n,es,(k : Int)) = some r ∧ (r = .inr () → l = [] ∨ (xx l : Int) ≤ n)
 | [],k,n,h,hk,h1,h2 => by
  obtain ⟨g1,g2⟩ := drop_nil h hk
  rw [q0f.eq_1,if_neg (by simp; omega)]
  exact ⟨_,rfl,fun _ => .inl rfl⟩
 | e :: l,k,n,h,hk,h1,h2 => by
  obtain ⟨g1,g2,g3,g4⟩ := drop_cons h
  rw [q0f.eq_1,if_pos (by simp; omega),g1]
  simp only [Option.bind_eq_bind,Option.bind_some]
  by_cases hc : (e.text.length : Int) > n
  ·rw [if_pos (by simpa using hc)]
   exact ⟨_,rfl,fun h => by cases h⟩
  ·rw [if_neg (by simpa using hc),xn (n := n - (e.text.length : Int)),jy (by omega)]
   obtain ⟨r,e1,e2⟩ := qhm es hl l (k + 1) (n - (e.text.length : Int)) g4 (by omega) (by omega) (by omega)
   refine ⟨r,e1,fun hr => .inr ?_⟩
   rw [q5a]
   rcases e2 hr with h | h
   ·subst h
    simp [xx]
    omega
   ·omega
theorem qwn (n : Int) (h1 : -1000 ≤ n) (h2 : n ≤ 1000) (es : Sl T.qb) : ∃ r,q6f 10 n es = some r ∧ (r = false → es.l.length ≤ 10 ∧ (es.l = [] ∨ (xx es.l : Int) ≤ n)) := by
 unfold q6f
 by_cases hl : (es.l.length : Int) > 10
 ·rw [if_pos (by simpa using hl)]
  exact ⟨true,rfl,by simp⟩
 rw [if_neg (by simpa using hl)]
 obtain ⟨r,e1,e2⟩ := qhm es (by omega) es.l 0 n rfl (by omega) h1 h2
 rw [Int.natCast_zero] at e1
 rw [e1]
 simp only [Option.bind_eq_bind,Option.bind_some]
 cases r with
 | inl y =>
  refine ⟨y,rfl,fun hy => ?_⟩
  subst hy
  exfalso
  have key : ∀ (l : List T.qb) (k : Nat) (n : Int),es.l.drop k = l → k ≤ es.l.length → -1000 ≤ n → n ≤ 1000 → q0f (n,es,(k : Int)) ≠ some (.inl false) := by
   intro l
   induction l with
   | nil =>
    intro k n h hk _ _
    obtain ⟨g1,g2⟩ := drop_nil h hk
    rw [q0f.eq_1,if_neg (by simp; omega)]
    simp
   | cons e l ih =>
    intro k n h hk h1 h2
    obtain ⟨g1,g2,g3,g4⟩ := drop_cons h
    rw [q0f.eq_1,if_pos (by simp; omega),g1]
    simp only [Option.bind_eq_bind,Option.bind_some]
    by_cases hc : (e.text.length : Int) > n
    ·rw [if_pos (by simpa using hc)]
     simp
    ·rw [if_neg (by simpa using hc),xn (n := n - (e.text.length : Int)),jy (by omega)]
     exact ih (k + 1) _ g4 (by omega) (by omega) (by omega)
  have := key es.l 0 n rfl (by omega) h1 h2
  rw [Int.natCast_zero] at this
  exact this e1
 | inr y => exact ⟨false,rfl,fun _ => ⟨by omega,e2 rfl⟩⟩
theorem qi2 (os : Sl T.Op) (i : Int) (x : T.Op) (hx : ql os.l i = some x) (hl : x.edits.l.length ≤ 1000) (r0 : List Bytes) : ∀ (l : List T.qb) (k : Nat) (n : Int),x.edits.l.drop k = l → k ≤ x.edits.l.length → -10000 ≤ n - (xx l : Int) → n ≤ 1000 →
  q2r (n,os,i,(k : Int),r0) = some (n - (xx l : Int))
 | [],k,n,h,hk,h1,h2 => by
  obtain ⟨g1,g2⟩ := drop_nil h hk
  rw [q2r.eq_1,hx]
  simp only [Option.bind_eq_bind,Option.bind_some]
  rw [if_neg (by simp; omega)]
  simp [xx]
 | e :: l,k,n,h,hk,h1,h2 => by
  obtain ⟨g1,g2,g3,g4⟩ := drop_cons h
  rw [q5a] at h1 ⊢
  rw [q2r.eq_1,hx]
  simp only [Option.bind_eq_bind,Option.bind_some]
  rw [if_pos (by simp; omega),g1]
  simp only [Option.bind_some]
  rw [xn (n := n - (e.text.length : Int)),jy (by omega)]
  rw [qi2 os i x hx hl r0 l (k + 1) _ g4 (by omega) (by omega) (by omega)]
  congr 1
  omega
def Few (o : T.Op) : Prop := o.name.length ≤ 1000 ∧ o.text.length ≤ 1000 ∧ o.edits.l.length ≤ 10 ∧ xx o.edits.l ≤ 1000 ∧ o.sels.l.length ≤ 10
theorem qi0 (os : Sl T.Op) (hl : os.l.length ≤ 1000) : ∀ (l : List T.Op) (k : Nat) (n : Int),os.l.drop k = l → k ≤ os.l.length → 0 ≤ n → n ≤ 1000 →
  ∃ r,q3o (n,os,(k : Int)) = some r ∧ r ≠ .inl false ∧ (r = .inr () → ∀ o ∈ l,Few o)
 | [],k,n,h,hk,h1,h2 => by
  obtain ⟨g1,g2⟩ := drop_nil h hk
  rw [q3o.eq_1,if_neg (by simp; omega)]
  exact ⟨_,rfl,by simp,fun _ _ h => by cases h⟩
 | o :: l,k,n,h,hk,h1,h2 => by
  obtain ⟨g1,g2,g3,g4⟩ := drop_cons h
  rw [q3o.eq_1,if_pos (by simp; omega),g1]
  simp only [Option.bind_eq_bind,Option.bind_some]
  obtain ⟨b,b1,b2⟩ := zqh n ⟨by omega,h2⟩ o.name o.text
  rw [b1]
  simp only [Option.bind_some]
  cases b with
  | true => exact ⟨.inl true,rfl,by simp,by simp⟩
  | false =>
  obtain ⟨b3,b4⟩ := b2 rfl
  rw [if_neg (by simp)]
  by_cases he : (o.edits.l.length : Int) > 10
  ·rw [if_pos (by simpa using he)]
   exact ⟨.inl true,rfl,by simp,by simp⟩
  rw [if_neg (by simpa using he)]
  by_cases hs : (o.sels.l.length : Int) > 10
  ·rw [if_pos (by simpa using hs)]
   exact ⟨.inl true,rfl,by simp,by simp⟩
  rw [if_neg (by simpa using hs)]
  obtain ⟨m,m1,m2⟩ := qwn n (by omega) h2 o.edits
  rw [m1]
  simp only [Option.bind_some]
  cases m with
  | true => exact ⟨.inl true,rfl,by simp,by simp⟩
  | false =>
  obtain ⟨m3,m4⟩ := m2 rfl
  have hsum : (xx o.edits.l : Int) ≤ 1000 := by
   rcases m4 with h | h
   ·rw [h]; simp [xx]
   ·omega
  rw [if_neg (by simp),xn (n := n - (o.name.length : Int)),xn (n := n - (o.name.length : Int) - (o.text.length : Int))]
  have hh := qi2 os (k : Int) o g1 (by omega) [o.name,o.text] o.edits.l 0 (n - (o.name.length : Int) - (o.text.length : Int)) rfl (by omega) (by omega) (by omega)
  rw [Int.natCast_zero] at hh
  rw [hh]
  simp only [Option.bind_some]
  by_cases hneg : n - (o.name.length : Int) - (o.text.length : Int) - (xx o.edits.l : Int) < 0
  ·rw [if_pos (by simpa using hneg)]
   exact ⟨.inl true,rfl,by simp,by simp⟩
  rw [if_neg (by simpa using hneg),jy (by omega)]
  obtain ⟨r,r1,r2,r3⟩ := qi0 os hl l (k + 1) (n - (o.name.length : Int) - (o.text.length : Int) - (xx o.edits.l : Int)) g4 (by omega) (by omega) (by omega)
  refine ⟨r,r1,r2,fun hr x hx => ?_⟩
  rcases List.mem_cons.1 hx with rfl | hx
  ·exact ⟨by omega,by omega,by omega,by omega,by omega⟩
  ·exact r3 hr x hx
theorem qr3 (many n : Int) (h0 : 0 ≤ n) (h1 : n ≤ 1000) (hm : many ≤ 1000) (os : Sl T.Op) : ∃ r,q79 many n os = some r ∧ (r = false → (os.l.length : Int) ≤ many ∧ ∀ o ∈ os.l,Few o) := by
 unfold q79
 by_cases hl : (os.l.length : Int) > many
 ·rw [if_pos (by simpa using hl)]
  exact ⟨true,rfl,by simp⟩
 rw [if_neg (by simpa using hl)]
 obtain ⟨r,e1,e2,e3⟩ := qi0 os (by omega) os.l 0 n rfl (by omega) h0 h1
 rw [Int.natCast_zero] at e1
 rw [e1]
 simp only [Option.bind_eq_bind,Option.bind_some]
 cases r with
 | inl y =>
  cases y with
  | false => exact absurd rfl e2
  | true => exact ⟨true,rfl,by simp⟩
 | inr y => exact ⟨false,rfl,fun _ => ⟨by omega,e3 rfl⟩⟩
end Go.Proofs.YtaglodpkpggdiaaGreatDoor
