/-
  Sorting: selections, stretches, edits.
-/
import Derived.Test.YtkbgphcebakcnaaGreatFah
import Derived.Test.YtkbgphcebakcnaaGreatFan
set_option linter.unusedSimpArgs false
set_option linter.unusedVariables false
namespace Go.Proofs.YtkbgphcebakcnaaGreat
open Go Go.Gm
theorem q3s (x y : Int) : cmp_Compare_int x y = some (if x < y then -1 else if x > y then 1 else 0) := by
 unfold cmp_Compare_int cmp_isNaN_int
 by_cases h1 : x < y
 ·simp [h1]
 ·by_cases h2 : y < x
  ·simp [h1,h2]
  ·simp [h1,h2]
theorem qk7 (a b : Int) : q06 [a,b] = some (if a ≠ 0 then a else b) := by
 unfold q06
 rw [q0f.eq_1]
 by_cases h1 : a = 0
 ·subst h1
  have e : IntKind.i64.wrap (0 + 1) = 1 := by decide
  simp only [List.length_cons,List.length_nil,e]
  rw [q0f.eq_1]
  have e2 : IntKind.i64.wrap (1 + 1) = 2 := by decide
  by_cases h2 : b = 0
  ·subst h2
   simp only [e2,qc]
   rw [q0f.eq_1]
   simp
  ·simp [qc,h2]
 ·simp [qc,h1]
def leS (a b : T.Span) : Prop := a.frm < b.frm ∨ a.frm = b.frm ∧ a.to ≤ b.to
theorem q8f (a b c d : Int) : ∃ r,(some (if a < b then (-1 : Int) else if a > b then 1 else 0) >>= fun x => some (if c < d then (-1 : Int) else if c > d then 1 else 0) >>= fun y => q06 [x,y] >>= fun z => some z) = some r ∧
  (r < 0 ↔ ¬ (b < a ∨ b = a ∧ d ≤ c)) := by
 simp only [Option.bind_eq_bind,Option.bind_some,qk7]
 refine ⟨_,rfl, ?_⟩
 by_cases h1 : a < b
 ·simp [h1] <;> omega
 ·by_cases h2 : a > b
  ·simp [h1,h2]
  ·have : a = b := by omega
   subst this
   by_cases h3 : c < d
   ·simp [h3]
   ·by_cases h4 : c > d
    ·simp [h3,h4] <;> omega
    ·simp [h3,h4] <;> omega
theorem z7c (x y : T.Span) : ∃ c,q3i x y = some c ∧ (c < 0 ↔ ¬ leS y x) := by
 unfold q3i
 rw [q3s,q3s]
 exact q8f x.frm y.frm x.to y.to
theorem zaz (x y : T.q9) : ∃ c,q2u x y = some c ∧ (c < 0 ↔ ¬ leS y.span x.span) := by
 unfold q2u
 rw [q3s,q3s]
 exact q8f x.span.frm y.span.frm x.span.to y.span.to
def tq (s : T.Sel) : T.Span := ⟨if s.head < s.anchor then s.head else s.anchor,if s.head > s.anchor then s.head else s.anchor⟩
theorem q65 (s : T.Sel) : gm s = some (tq s) := rfl
theorem qpo (x y : T.Sel) : ∃ c,q3w x y = some c ∧ (c < 0 ↔ ¬ leS (tq y) (tq x)) := by
 unfold q3w
 simp only [q65,Option.bind_eq_bind,Option.bind_some]
 rw [q3s,q3s]
 exact q8f _ _ _ _
theorem q8m {x y : T.Span} (h : ¬ leS y x) : leS x y := by unfold leS at *; omega
theorem q8s {x y z : T.Span} (h1 : leS x y) (h2 : leS y z) : leS x z := by unfold leS at *; omega
theorem z5u (d : List T.Span) (hn : d.length < 2 ^ 30) : Tot (q5a 0 (d.length : Int) d) (fun out => out.Perm d ∧ out.Pairwise leS) :=
 q9k (L2 := q21) (L0 := q28) (le := leS) z7c (fun _ _ h => q8m h) (fun _ _ _ => q8s) (fun a b i j data => by rw [q21.eq_1]) (fun a b i data => by rw [q28.eq_1])
  (fun _ _ _ => rfl) d hn
theorem quu (d : List T.q9) (hn : d.length < 2 ^ 30) : Tot (q5f 0 (d.length : Int) d) (fun out => out.Perm d ∧ out.Pairwise (fun a b => leS a.span b.span)) :=
 q9k (L2 := q0y) (L0 := q1j) (le := fun a b : T.q9 => leS a.span b.span) zaz (fun _ _ h => q8m h) (fun _ _ _ => q8s) (fun a b i j data => by rw [q0y.eq_1]) (fun a b i data => by rw [q1j.eq_1])
  (fun _ _ _ => rfl) d hn
theorem qqz (d : List T.Sel) (hn : d.length < 2 ^ 30) : Tot (q4c 0 (d.length : Int) d) (fun out => out.Perm d ∧ out.Pairwise (fun a b => leS (tq a) (tq b))) :=
 q9k (L2 := q1w) (L0 := q1e) (le := fun a b : T.Sel => leS (tq a) (tq b)) qpo (fun _ _ h => q8m h) (fun _ _ _ => q8s) (fun a b i j data => by rw [q1w.eq_1]) (fun a b i data => by rw [q1e.eq_1])
  (fun _ _ _ => rfl) d hn
theorem qns (d : List T.Span) (hn : d.length < 20) : Tot (q54 d) (fun out => out.Perm d ∧ out.Pairwise leS) := by
 unfold q54 q6s
 rw [q39.eq_1,if_neg (by simp <;> omega)]
 obtain ⟨out,h1,h2⟩ := z5u d (by omega)
 simp only [Option.bind_eq_bind,Option.bind_some,h1]
 rw [q38.eq_1,if_neg (by simp <;> omega)]
 exact ⟨out,rfl,h2⟩
theorem qmi (d : List T.q9) (hn : d.length < 20) : Tot (q4q d) (fun out => out.Perm d ∧ out.Pairwise (fun a b => leS a.span b.span)) := by
 unfold q4q q75
 rw [q3f.eq_1,if_neg (by simp <;> omega)]
 obtain ⟨out,h1,h2⟩ := quu d (by omega)
 simp only [Option.bind_eq_bind,Option.bind_some,h1]
 rw [q2o.eq_1,if_neg (by simp <;> omega)]
 exact ⟨out,rfl,h2⟩
theorem qxa (d : List T.Sel) (hn : d.length < 20) : Tot (q4m d) (fun out => out.Perm d ∧ out.Pairwise (fun a b => leS (tq a) (tq b))) := by
 unfold q4m q5s
 rw [q36.eq_1,if_neg (by simp <;> omega)]
 obtain ⟨out,h1,h2⟩ := qqz d (by omega)
 simp only [Option.bind_eq_bind,Option.bind_some,h1]
 rw [q34.eq_1,if_neg (by simp <;> omega)]
 exact ⟨out,rfl,h2⟩
theorem z8w : q4k ⟨true,[]⟩ = some () := by
 unfold q4k q6f q44
 rw [q2m.eq_1,if_neg (by simp)]
 simp only [Option.bind_eq_bind,Option.bind_some]
 rw [q2c.eq_1,if_neg (by rw [zk (by omega) (by omega)]; simp)]
 simp only [Option.bind_some]
 rw [q40.eq_1,if_neg (by simp)]
 rfl
theorem zcm : q59 ⟨true,[]⟩ = some () := by
 unfold q59 q5r q49
 rw [q3d.eq_1,if_neg (by simp)]
 simp only [Option.bind_eq_bind,Option.bind_some]
 rw [q2q.eq_1,if_neg (by rw [zk (by omega) (by omega)]; simp)]
 simp only [Option.bind_some]
 rw [q3l.eq_1,if_neg (by simp)]
 rfl
theorem qjv : q4h ⟨true,[]⟩ = some () := by
 unfold q4h q6c q5h
 rw [q3u.eq_1,if_neg (by simp)]
 simp only [Option.bind_eq_bind,Option.bind_some]
 rw [q2i.eq_1,if_neg (by rw [zk (by omega) (by omega)]; simp)]
 simp only [Option.bind_some]
 rw [q3k.eq_1,if_neg (by simp)]
 rfl
end Go.Proofs.YtkbgphcebakcnaaGreat
