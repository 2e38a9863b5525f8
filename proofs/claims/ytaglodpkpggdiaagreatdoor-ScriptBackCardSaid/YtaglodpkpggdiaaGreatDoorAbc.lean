/-
  How much operations are: what the laws let in.
-/
import Derived.Test.YtaglodpkpggdiaaGreatDoorAar
set_option linter.unusedSimpArgs false
set_option linter.unusedVariables false
namespace Go.Proofs.YtaglodpkpggdiaaGreatDoor
open Go Go.Gm
theorem qsh (n : Int) (hn : -1000 ≤ n ∧ n ≤ 1000) (a b : Bytes) : ∃ r,q7e n [a,b] = some r ∧ (r = false → (a.length : Int) < n ∧ (b.length : Int) < n) := by
 unfold q7e
 rw [q3s.eq_1,if_pos (by simp),show ql [a,b] (0 : Int) = some a from rfl]
 simp only [Option.bind_eq_bind,Option.bind_some]
 by_cases h1 : (a.length : Int) ≥ n
 ·rw [if_pos (by simpa using h1)]
  exact ⟨true,rfl,by simp⟩
 rw [if_neg (by simpa using h1),xy (n := n - (a.length : Int)),xy (n := n - (a.length : Int) - 1),xy (n := 0 + 1)]
 rw [q3s.eq_1,if_pos (by simp),show ql [a,b] ((0 : Int) + 1) = some b from rfl]
 simp only [Option.bind_eq_bind,Option.bind_some]
 by_cases h2 : (b.length : Int) ≥ n - (a.length : Int) - 1
 ·rw [if_pos (by simpa using h2)]
  exact ⟨true,rfl,by simp⟩
 rw [if_neg (by simpa using h2),xy (n := n - (a.length : Int) - 1 - (b.length : Int)),xy (n := n - (a.length : Int) - 1 - (b.length : Int) - 1),xy (n := 0 + 1 + 1)]
 rw [q3s.eq_1,if_neg (by simp)]
 exact ⟨false,rfl,fun _ => by omega⟩
def xz (l : List T.qb) : Nat := (l.map fun e => e.text.length).sum
theorem q5s (e : T.qb) (l : List T.qb) : xz (e :: l) = e.text.length + xz l := by simp [xz]
theorem qfw {l : List T.qb} {e : T.qb} (h : e ∈ l) : e.text.length ≤ xz l := by
 induction l with
 | nil => cases h
 | cons x r ih =>
  rw [q5s]
  rcases List.mem_cons.1 h with rfl | h
  ·omega
  ·have := ih h
   omega
theorem qhf (es : Sl T.qb) (hl : es.l.length ≤ 1000) : ∀ (l : List T.qb) (k : Nat) (n : Int),es.l.drop k = l → k ≤ es.l.length → -1000 ≤ n → n ≤ 1000 →
  ∃ r,q0p (n,es,(k : Int)) = some r ∧ (r = .inr () → l = [] ∨ (xz l : Int) ≤ n)
 | [],k,n,h,hk,h1,h2 => by
  obtain ⟨g1,g2⟩ := drop_nil h hk
  rw [q0p.eq_1,if_neg (by simp; omega)]
  exact ⟨_,rfl,fun _ => .inl rfl⟩
 | e :: l,k,n,h,hk,h1,h2 => by
  obtain ⟨g1,g2,g3,g4⟩ := drop_cons h
  rw [q0p.eq_1,if_pos (by simp; omega),g1]
  simp only [Option.bind_eq_bind,Option.bind_some]
  by_cases hc : (e.text.length : Int) > n
  ·rw [if_pos (by simpa using hc)]
   exact ⟨_,rfl,fun h => by cases h⟩
  ·rw [if_neg (by simpa using hc),xy (n := n - (e.text.length : Int)),j6 (by omega)]
   obtain ⟨r,e1,e2⟩ := qhf es hl l (k + 1) (n - (e.text.length : Int)) g4 (by omega) (by omega) (by omega)
   refine ⟨r,e1,fun hr => .inr ?_⟩
   rw [q5s]
   rcases e2 hr with h | h
   ·subst h
    simp [xz]
    omega
   ·omega
theorem zxf (n : Int) (h1 : -1000 ≤ n) (h2 : n ≤ 1000) (es : Sl T.qb) : ∃ r,q6p 10 n es = some r ∧ (r = false → es.l.length ≤ 10 ∧ (es.l = [] ∨ (xz es.l : Int) ≤ n)) := by
 unfold q6p
 by_cases hl : (es.l.length : Int) > 10
 ·rw [if_pos (by simpa using hl)]
  exact ⟨true,rfl,by simp⟩
 rw [if_neg (by simpa using hl)]
 obtain ⟨r,e1,e2⟩ := qhf es (by omega) es.l 0 n rfl (by omega) h1 h2
 rw [Int.natCast_zero] at e1
 rw [e1]
 simp only [Option.bind_eq_bind,Option.bind_some]
 cases r with
 | inl y =>
  refine ⟨y,rfl,fun hy => ?_⟩
  subst hy
  exfalso
  have key : ∀ (l : List T.qb) (k : Nat) (n : Int),es.l.drop k = l → k ≤ es.l.length → -1000 ≤ n → n ≤ 1000 → q0p (n,es,(k : Int)) ≠ some (.inl false) := by
   intro l
   induction l with
   | nil =>
    intro k n h hk _ _
    obtain ⟨g1,g2⟩ := drop_nil h hk
    rw [q0p.eq_1,if_neg (by simp; omega)]
    simp
   | cons e l ih =>
    intro k n h hk h1 h2
    obtain ⟨g1,g2,g3,g4⟩ := drop_cons h
    rw [q0p.eq_1,if_pos (by simp; omega),g1]
    simp only [Option.bind_eq_bind,Option.bind_some]
    by_cases hc : (e.text.length : Int) > n
    ·rw [if_pos (by simpa using hc)]
     simp
    ·rw [if_neg (by simpa using hc),xy (n := n - (e.text.length : Int)),j6 (by omega)]
     exact ih (k + 1) _ g4 (by omega) (by omega) (by omega)
  have := key es.l 0 n rfl (by omega) h1 h2
  rw [Int.natCast_zero] at this
  exact this e1
 | inr y => exact ⟨false,rfl,fun _ => ⟨by omega,e2 rfl⟩⟩
theorem qhu (os : Sl T.Op) (i : Int) (x : T.Op) (hx : ql os.l i = some x) (hl : x.edits.l.length ≤ 1000) (r0 : List Bytes) : ∀ (l : List T.qb) (k : Nat) (n : Int),x.edits.l.drop k = l → k ≤ x.edits.l.length → -10000 ≤ n - (xz l : Int) → n ≤ 1000 →
  q3c (n,os,i,(k : Int),r0) = some (n - (xz l : Int))
 | [],k,n,h,hk,h1,h2 => by
  obtain ⟨g1,g2⟩ := drop_nil h hk
  rw [q3c.eq_1,hx]
  simp only [Option.bind_eq_bind,Option.bind_some]
  rw [if_neg (by simp; omega)]
  simp [xz]
 | e :: l,k,n,h,hk,h1,h2 => by
  obtain ⟨g1,g2,g3,g4⟩ := drop_cons h
  rw [q5s] at h1 ⊢
  rw [q3c.eq_1,hx]
  simp only [Option.bind_eq_bind,Option.bind_some]
  rw [if_pos (by simp; omega),g1]
  simp only [Option.bind_some]
  rw [xy (n := n - (e.text.length : Int)),j6 (by omega)]
  rw [qhu os i x hx hl r0 l (k + 1) _ g4 (by omega) (by omega) (by omega)]
  congr 1
  omega
def Few (o : T.Op) : Prop := o.name.length ≤ 1000 ∧ o.text.length ≤ 1000 ∧ o.edits.l.length ≤ 10 ∧ xz o.edits.l ≤ 1000 ∧ o.sels.l.length ≤ 10
theorem qes (os : Sl T.Op) (hl : os.l.length ≤ 1000) : ∀ (l : List T.Op) (k : Nat) (n : Int),os.l.drop k = l → k ≤ os.l.length → 0 ≤ n → n ≤ 1000 →
  ∃ r,q3d (n,os,(k : Int)) = some r ∧ r ≠ .inl false ∧ (r = .inr () → ∀ o ∈ l,Few o)
 | [],k,n,h,hk,h1,h2 => by
  obtain ⟨g1,g2⟩ := drop_nil h hk
  rw [q3d.eq_1,if_neg (by simp; omega)]
  exact ⟨_,rfl,by simp,fun _ _ h => by cases h⟩
 | o :: l,k,n,h,hk,h1,h2 => by
  obtain ⟨g1,g2,g3,g4⟩ := drop_cons h
  rw [q3d.eq_1,if_pos (by simp; omega),g1]
  simp only [Option.bind_eq_bind,Option.bind_some]
  obtain ⟨b,b1,b2⟩ := qsh n ⟨by omega,h2⟩ o.name o.text
  rw [b1]
  simp only [Option.bind_some]
  cases b with
  | true => exact ⟨.inl true,rfl,by simp,by simp⟩
  | false =>
  obtain ⟨b3,b4⟩ := b2 rfl
  rw [if_neg (by simp)]
  by_cases he : (o.edits.l.length : Int) > 10
  ·rw [if_pos (by simpa using he)]
   exact ⟨.inl true,rfl,by simp,by simp⟩
  rw [if_neg (by simpa using he)]
  by_cases hs : (o.sels.l.length : Int) > 10
  ·rw [if_pos (by simpa using hs)]
   exact ⟨.inl true,rfl,by simp,by simp⟩
  rw [if_neg (by simpa using hs)]
  obtain ⟨m,m1,m2⟩ := zxf n (by omega) h2 o.edits
  rw [m1]
  simp only [Option.bind_some]
  cases m with
  | true => exact ⟨.inl true,rfl,by simp,by simp⟩
  | false =>
  obtain ⟨m3,m4⟩ := m2 rfl
  have hsum : (xz o.edits.l : Int) ≤ 1000 := by
   rcases m4 with h | h
   ·rw [h]; simp [xz]
   ·omega
  rw [if_neg (by simp),xy (n := n - (o.name.length : Int)),xy (n := n - (o.name.length : Int) - (o.text.length : Int))]
  have hh := qhu os (k : Int) o g1 (by omega) [o.name,o.text] o.edits.l 0 (n - (o.name.length : Int) - (o.text.length : Int)) rfl (by omega) (by omega) (by omega)
  rw [Int.natCast_zero] at hh
  rw [hh]
  simp only [Option.bind_some]
  by_cases hneg : n - (o.name.length : Int) - (o.text.length : Int) - (xz o.edits.l : Int) < 0
  ·rw [if_pos (by simpa using hneg)]
   exact ⟨.inl true,rfl,by simp,by simp⟩
  rw [if_neg (by simpa using hneg),j6 (by omega)]
  obtain ⟨r,r1,r2,r3⟩ := qes os hl l (k + 1) (n - (o.name.length : Int) - (o.text.length : Int) - (xz o.edits.l : Int)) g4 (by omega) (by omega) (by omega)
  refine ⟨r,r1,r2,fun hr x hx => ?_⟩
  rcases List.mem_cons.1 hx with rfl | hx
  ·exact ⟨by omega,by omega,by omega,by omega,by omega⟩
  ·exact r3 hr x hx
theorem zpe (many n : Int) (h0 : 0 ≤ n) (h1 : n ≤ 1000) (hm : many ≤ 1000) (os : Sl T.Op) : ∃ r,q74 many n os = some r ∧ (r = false → (os.l.length : Int) ≤ many ∧ ∀ o ∈ os.l,Few o) := by
 unfold q74
 by_cases hl : (os.l.length : Int) > many
 ·rw [if_pos (by simpa using hl)]
  exact ⟨true,rfl,by simp⟩
 rw [if_neg (by simpa using hl)]
 obtain ⟨r,e1,e2,e3⟩ := qes os (by omega) os.l 0 n rfl (by omega) h0 h1
 rw [Int.natCast_zero] at e1
 rw [e1]
 simp only [Option.bind_eq_bind,Option.bind_some]
 cases r with
 | inl y =>
  cases y with
  | false => exact absurd rfl e2
  | true => exact ⟨true,rfl,by simp⟩
 | inr y => exact ⟨false,rfl,fun _ => ⟨by omega,e3 rfl⟩⟩
end Go.Proofs.YtaglodpkpggdiaaGreatDoor
