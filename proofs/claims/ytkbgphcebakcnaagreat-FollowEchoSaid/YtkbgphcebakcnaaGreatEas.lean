/-
  Sorting: selections, stretches, edits.
-/
import Derived.Test.YtkbgphcebakcnaaGreatEah
import Derived.Test.YtkbgphcebakcnaaGreatEar
set_option linter.unusedSimpArgs false
set_option linter.unusedVariables false
namespace Go.Proofs.YtkbgphcebakcnaaGreat
open Go Go.Gm
theorem q6j (x y : Int) : cmp_Compare_int x y = some (if x < y then -1 else if x > y then 1 else 0) := by
 unfold cmp_Compare_int cmp_isNaN_int
 by_cases h1 : x < y
 ·simp [h1]
 ·by_cases h2 : y < x
  ·simp [h1,h2]
  ·simp [h1,h2]
theorem qrl (a b : Int) : q1g [a,b] = some (if a ≠ 0 then a else b) := by
 unfold q1g
 rw [q27.eq_1]
 by_cases h1 : a = 0
 ·subst h1
  have e : IntKind.i64.wrap (0 + 1) = 1 := by decide
  simp only [List.length_cons,List.length_nil,e]
  rw [q27.eq_1]
  have e2 : IntKind.i64.wrap (1 + 1) = 2 := by decide
  by_cases h2 : b = 0
  ·subst h2
   simp only [e2,q9]
   rw [q27.eq_1]
   simp
  ·simp [q9,h2]
 ·simp [q9,h1]
def leS (a b : T.Span) : Prop := a.frm < b.frm ∨ a.frm = b.frm ∧ a.to ≤ b.to
theorem qdx (a b c d : Int) : ∃ r,(some (if a < b then (-1 : Int) else if a > b then 1 else 0) >>= fun x => some (if c < d then (-1 : Int) else if c > d then 1 else 0) >>= fun y => q1g [x,y] >>= fun z => some z) = some r ∧
  (r < 0 ↔ ¬ (b < a ∨ b = a ∧ d ≤ c)) := by
 simp only [Option.bind_eq_bind,Option.bind_some,qrl]
 refine ⟨_,rfl, ?_⟩
 by_cases h1 : a < b
 ·simp [h1] <;> omega
 ·by_cases h2 : a > b
  ·simp [h1,h2]
  ·have : a = b := by omega
   subst this
   by_cases h3 : c < d
   ·simp [h3]
   ·by_cases h4 : c > d
    ·simp [h3,h4] <;> omega
    ·simp [h3,h4] <;> omega
theorem zm1 (x y : T.Span) : ∃ c,q5n x y = some c ∧ (c < 0 ↔ ¬ leS y x) := by
 unfold q5n
 rw [q6j,q6j]
 exact qdx x.frm y.frm x.to y.to
theorem z0z (x y : T.qb) : ∃ c,q5m x y = some c ∧ (c < 0 ↔ ¬ leS y.span x.span) := by
 unfold q5m
 rw [q6j,q6j]
 exact qdx x.span.frm y.span.frm x.span.to y.span.to
def mr (s : T.Sel) : T.Span := ⟨if s.head < s.anchor then s.head else s.anchor,if s.head > s.anchor then s.head else s.anchor⟩
theorem qg4 (s : T.Sel) : q04 s = some (mr s) := rfl
theorem qts (x y : T.Sel) : ∃ c,q5o x y = some c ∧ (c < 0 ↔ ¬ leS (mr y) (mr x)) := by
 unfold q5o
 simp only [qg4,Option.bind_eq_bind,Option.bind_some]
 rw [q6j,q6j]
 exact qdx _ _ _ _
theorem qcs {x y : T.Span} (h : ¬ leS y x) : leS x y := by unfold leS at *; omega
theorem qcw {x y z : T.Span} (h1 : leS x y) (h2 : leS y z) : leS x z := by unfold leS at *; omega
theorem zpk (d : List T.Span) (hn : d.length < 2 ^ 30) : Tot (q8r 0 (d.length : Int) d) (fun out => out.Perm d ∧ out.Pairwise leS) :=
 qbd (L2 := q3w) (L0 := q2x) (le := leS) zm1 (fun _ _ h => qcs h) (fun _ _ _ => qcw) (fun a b i j data => by rw [q3w.eq_1]) (fun a b i data => by rw [q2x.eq_1])
  (fun _ _ _ => rfl) d hn
theorem zkd (d : List T.qb) (hn : d.length < 2 ^ 30) : Tot (q7l 0 (d.length : Int) d) (fun out => out.Perm d ∧ out.Pairwise (fun a b => leS a.span b.span)) :=
 qbd (L2 := q2r) (L0 := q3g) (le := fun a b : T.qb => leS a.span b.span) z0z (fun _ _ h => qcs h) (fun _ _ _ => qcw) (fun a b i j data => by rw [q2r.eq_1]) (fun a b i data => by rw [q3g.eq_1])
  (fun _ _ _ => rfl) d hn
theorem qsk (d : List T.Sel) (hn : d.length < 2 ^ 30) : Tot (q7h 0 (d.length : Int) d) (fun out => out.Perm d ∧ out.Pairwise (fun a b => leS (mr a) (mr b))) :=
 qbd (L2 := q36) (L0 := q2p) (le := fun a b : T.Sel => leS (mr a) (mr b)) qts (fun _ _ h => qcs h) (fun _ _ _ => qcw) (fun a b i j data => by rw [q36.eq_1]) (fun a b i data => by rw [q2p.eq_1])
  (fun _ _ _ => rfl) d hn
theorem z7x (d : List T.Span) (hn : d.length < 20) : Tot (q70 d) (fun out => out.Perm d ∧ out.Pairwise leS) := by
 unfold q70 q9c
 rw [q5i.eq_1,if_neg (by simp <;> omega)]
 obtain ⟨out,h1,h2⟩ := zpk d (by omega)
 simp only [Option.bind_eq_bind,Option.bind_some,h1]
 rw [q4q.eq_1,if_neg (by simp <;> omega)]
 exact ⟨out,rfl,h2⟩
theorem qzp (d : List T.qb) (hn : d.length < 20) : Tot (q7x d) (fun out => out.Perm d ∧ out.Pairwise (fun a b => leS a.span b.span)) := by
 unfold q7x q9w
 rw [q6b.eq_1,if_neg (by simp <;> omega)]
 obtain ⟨out,h1,h2⟩ := zkd d (by omega)
 simp only [Option.bind_eq_bind,Option.bind_some,h1]
 rw [q4i.eq_1,if_neg (by simp <;> omega)]
 exact ⟨out,rfl,h2⟩
theorem qg0 (d : List T.Sel) (hn : d.length < 20) : Tot (q6r d) (fun out => out.Perm d ∧ out.Pairwise (fun a b => leS (mr a) (mr b))) := by
 unfold q6r q9z
 rw [q5u.eq_1,if_neg (by simp <;> omega)]
 obtain ⟨out,h1,h2⟩ := qsk d (by omega)
 simp only [Option.bind_eq_bind,Option.bind_some,h1]
 rw [q64.eq_1,if_neg (by simp <;> omega)]
 exact ⟨out,rfl,h2⟩
end Go.Proofs.YtkbgphcebakcnaaGreat
