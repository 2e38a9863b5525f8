/-
  Insertion sort, as the program does it: the same elements, in order.
-/
import Derived.Test.YtkbgphcebakcnaaGreatEag
set_option linter.unusedSimpArgs false
set_option linter.unusedVariables false
namespace Go.Proofs.YtkbgphcebakcnaaGreat
open Go Go.Gm
def Tot {α : Type} (o : Option α) (Q : α → Prop) : Prop := ∃ r,o = some r ∧ Q r
theorem Tot.ret {α : Type} {a : α} {Q : α → Prop} (h : Q a) : Tot (some a) Q := ⟨a,rfl,h⟩
theorem Tot.bind {α β : Type} {o : Option α} {f : α → Option β} {P : α → Prop} {Q : β → Prop} (h : Tot o P) (k : ∀ x,P x → Tot (f x) Q) : Tot (o >>= f) Q := by
 obtain ⟨x,rfl,hx⟩ := h
 exact k x hx
theorem Tot.go {α β : Type} {o : Option α} {f : α → Option β} {a : α} {Q : β → Prop} (h : o = some a) (k : Tot (f a) Q) : Tot (o >>= f) Q := by
 subst h
 exact k
theorem Tot.need {α : Type} {c : Prop} [Decidable c] {a : Option α} {Q : α → Prop} (hc : c) (h : Tot a Q) : Tot (if c then a else none) Q := by
 rw [if_pos hc]
 exact h
theorem Tot.mono {α : Type} {o : Option α} {P Q : α → Prop} (h : Tot o P) (k : ∀ x,P x → Q x) : Tot o Q := by
 obtain ⟨x,h1,h2⟩ := h
 exact ⟨x,h1,k x h2⟩
theorem Tot.get {α : Type} {l : List α} {i : Int} (h1 : 0 ≤ i) (h2 : i < (l.length : Int)) : Tot (q9 l i) (fun x => l[i.toNat]? = some x ∧ x ∈ l) := by
 have h3 : i.toNat < l.length := by omega
 refine ⟨l[i.toNat], ?_,by simp [h3],List.getElem_mem h3⟩
 unfold q9
 rw [if_pos h1]
 simp [h3]
theorem Tot.zy {α : Type} {l : List α} {lo hi : Int} (h1 : 0 ≤ lo) (h2 : lo ≤ hi) (h3 : hi ≤ (l.length : Int)) : Tot (Gm.zy l lo hi) (fun r => r = (l.take hi.toNat).drop lo.toNat ∧ (r.length : Int) = hi - lo) := by
 refine ⟨(l.take hi.toNat).drop lo.toNat, ?_,rfl, ?_⟩
 ·unfold Gm.zy
  rw [if_pos ⟨⟨h1,by omega⟩,by omega,by omega⟩]
 ·simp only [List.length_drop,List.length_take]; omega
theorem Tot.jv {α : Type} {l : List α} {lo : Int} (h1 : 0 ≤ lo) (h2 : lo ≤ (l.length : Int)) : Tot (Gm.jv l lo) (fun r => r = l.drop lo.toNat ∧ (r.length : Int) = l.length - lo) := by
 refine ⟨l.drop lo.toNat, ?_,rfl, ?_⟩
 ·unfold Gm.jv
  rw [if_pos ⟨h1,by omega⟩]
 ·simp only [List.length_drop]; omega
theorem Tot.ku {α : Type} {l : List α} {hi : Int} (h1 : 0 ≤ hi) (h2 : hi ≤ (l.length : Int)) : Tot (Gm.ku l hi) (fun r => r = l.take hi.toNat ∧ (r.length : Int) = hi) := by
 refine ⟨l.take hi.toNat, ?_,rfl, ?_⟩
 ·unfold Gm.ku
  rw [if_pos ⟨h1,by omega⟩]
 ·simp only [List.length_take]; omega
theorem qp5 {n k : Nat} (h : n ≤ 2 ^ 30) (hk : k ≤ 2 ^ 16) : qj n k = true := by
 have h1 : n * k ≤ 2 ^ 30 * 2 ^ 16 := Nat.mul_le_mul h hk
 unfold qj
 simp only [Bool.and_eq_true,decide_eq_true_eq]
 refine ⟨⟨by simpa using h1,by omega⟩,by omega⟩
theorem Tot.len {α : Type} {l : List α} {o : Option α} {i : Nat} (h : o = q9 l (i : Int)) (hi : i < l.length) : o = some l[i] := by
 subst h
 unfold q9
 simp [hi]
theorem qde {α : Type} (l : List α) (x : α) (r : List α) {i : Int} (h : i = (l.length : Int)) : q9 (l ++ x :: r) i = some x := by
 subst h
 unfold q9
 simp
end Go.Proofs.YtkbgphcebakcnaaGreat
set_option linter.unusedSimpArgs false
set_option linter.unusedVariables false
namespace Go.Proofs.YtkbgphcebakcnaaGreat
open Go Go.Gm
section
variable {α : Type} {cmp : α → α → Option Int} {le : α → α → Prop}
theorem qoq (hc : ∀ x y,∃ c,cmp x y = some c ∧ (c < 0 ↔ ¬ le y x)) (ht : ∀ x y,¬ le y x → le x y) (htr : ∀ x y z,le x y → le y z → le x z)
  {L2 : Int × Int × Int × Int × List α → Option (List α)}
  (h2 : ∀ a b i j data,L2 (a,b,i,j,data) = if decide (j > a) then q9 data j >>= fun x3 => q9 data (IntKind.i64.wrap (j - (1 : Int))) >>= fun x5 => cmp x3 x5 >>= fun v7 =>
   if decide (v7 < (0 : Int)) then q9 (data.set j.toNat x5) (IntKind.i64.wrap (j - (1 : Int))) >>= fun x10 => L2 (a,b,i,IntKind.i64.wrap (j - (1 : Int)),(data.set j.toNat x5).set (IntKind.i64.wrap (j - (1 : Int))).toNat x3)
   else some data else some data) (b i : Int) (rest : List α) :
  ∀ (n : Nat) (l : List α) (x : α) (r : List α),l.length = n → (l ++ x :: (r ++ rest)).length < 2 ^ 30 → l.Pairwise le → (x :: r).Pairwise le → (∀ y ∈ l,∀ z ∈ r,le y z) →
  ∃ out,L2 (0,b,i,(l.length : Int),l ++ x :: (r ++ rest)) = some (out ++ rest) ∧ out.Perm (l ++ x :: r) ∧ out.Pairwise le := by
 intro n
 induction n with
 | zero =>
  intro l x r hl _ h3 h4 h5
  have : l = [] := by simpa using hl
  subst this
  rw [h2]
  exact ⟨x :: r,by simp,.refl _,h4⟩
 | succ n ih =>
  intro l x r hl hn h3 h4 h5
  obtain ⟨l,y,rfl⟩ : ∃ l' y,l = l' ++ [y] := by
   rcases List.eq_nil_or_concat l with h | ⟨l',y,h⟩
   ·subst h; simp at hl
   ·exact ⟨l',y,by simpa using h⟩
  simp only [List.length_append,List.length_cons,List.length_nil] at hl hn
  have hlen : (((l ++ [y]).length : Nat) : Int) = (l.length : Int) + 1 := by simp
  have hw : IntKind.i64.wrap ((l.length : Int) + 1 - 1) = (l.length : Int) := by rw [zi (by omega) (by omega)] <;> omega
  rw [h2,hlen,hw,if_pos (by simp <;> omega),qde (l ++ [y]) x _ (by simp)]
  have e1 : l ++ [y] ++ x :: (r ++ rest) = l ++ y :: (x :: (r ++ rest)) := by simp
  simp only [Option.bind_eq_bind,Option.bind_some]
  rw [e1,qde l y _ rfl]
  obtain ⟨c,hc1,hc2⟩ := hc x y
  simp only [Option.bind_some,hc1]
  have e2 : (l ++ y :: (x :: (r ++ rest))).set ((l.length : Int) + 1).toNat y = l ++ y :: (y :: (r ++ rest)) := by
   rw [show ((l.length : Int) + 1).toNat = l.length + 1 from by omega,List.set_append_right _ _ (by omega)]
   simp
  have e3 : (l ++ y :: (y :: (r ++ rest))).set ((l.length : Int)).toNat x = l ++ x :: ((y :: r) ++ rest) := by
   rw [show ((l.length : Int)).toNat = l.length from by omega,List.set_append_right _ _ (by omega)]
   simp
  rw [e2,qde l y _ rfl]
  simp only [Option.bind_some,e3]
  simp only [List.pairwise_append,List.pairwise_cons,List.mem_singleton] at h3
  obtain ⟨p1,p2,p3⟩ := h3
  simp only [List.pairwise_cons] at h4
  by_cases hlt : c < 0
  ·rw [if_pos (by simpa using hlt)]
   have hxy : le x y := ht x y (hc2.1 hlt)
   obtain ⟨out,q1,q2,q3⟩ := ih l x (y :: r) (by omega) (by simp at hn ⊢; omega) p1 (by
    simp only [List.pairwise_cons,List.mem_cons]
    refine ⟨?_,⟨fun z hz => h5 y (by simp) z hz,h4.2⟩⟩
    rintro z (rfl | hz)
    ·exact hxy
    ·exact h4.1 z hz) (by
    intro z hz w hw
    simp only [List.mem_cons] at hw
    rcases hw with rfl | hw
    ·exact p3 z hz _ rfl
    ·exact h5 z (by simp [hz]) w hw)
   refine ⟨out,q1,q2.trans ?_,q3⟩
   simp only [List.append_assoc,List.singleton_append]
   exact List.Perm.append_left _ (List.Perm.swap _ _ _)
  ·rw [if_neg (by simpa using hlt)]
   have hyx : le y x := Classical.byContradiction fun h => hlt (hc2.2 h)
   refine ⟨l ++ y :: x :: r,by simp,by simp, ?_⟩
   simp only [List.pairwise_append,List.pairwise_cons,List.mem_cons]
   refine ⟨p1,⟨?_,h4⟩, ?_⟩
   ·rintro z (rfl | hz)
    ·exact hyx
    ·exact h5 y (by simp) z hz
   ·rintro z hz w (rfl | rfl | hw)
    ·exact p3 z hz _ rfl
    ·exact htr _ _ _ (p3 z hz y rfl) hyx
    ·exact h5 z (by simp [hz]) w hw
theorem zeh (hc : ∀ x y,∃ c,cmp x y = some c ∧ (c < 0 ↔ ¬ le y x)) (ht : ∀ x y,¬ le y x → le x y) (htr : ∀ x y z,le x y → le y z → le x z)
  {L2 : Int × Int × Int × Int × List α → Option (List α)}
  (h2 : ∀ a b i j data,L2 (a,b,i,j,data) = if decide (j > a) then q9 data j >>= fun x3 => q9 data (IntKind.i64.wrap (j - (1 : Int))) >>= fun x5 => cmp x3 x5 >>= fun v7 =>
   if decide (v7 < (0 : Int)) then q9 (data.set j.toNat x5) (IntKind.i64.wrap (j - (1 : Int))) >>= fun x10 => L2 (a,b,i,IntKind.i64.wrap (j - (1 : Int)),(data.set j.toNat x5).set (IntKind.i64.wrap (j - (1 : Int))).toNat x3)
   else some data else some data)
  {L0 : Int × Int × Int × List α → Option (List α)}
  (h0 : ∀ a b i data,L0 (a,b,i,data) = if decide (i < b) then L2 (a,b,i,i,data) >>= fun v3 => L0 (a,b,IntKind.i64.wrap (i + (1 : Int)),v3) else some data) :
  ∀ (rest s : List α),(s ++ rest).length < 2 ^ 30 → s.Pairwise le → ∃ out,L0 (0,((s ++ rest).length : Int),(s.length : Int),s ++ rest) = some out ∧ out.Perm (s ++ rest) ∧ out.Pairwise le := by
 intro rest
 induction rest with
 | nil =>
  intro s _ hs
  rw [h0,if_neg (by simp)]
  exact ⟨s,by simp,by simp,hs⟩
 | cons x rest ih =>
  intro s hn hs
  obtain ⟨out,q1,q2,q3⟩ := qoq hc ht htr h2 ((s ++ x :: rest).length : Int) (s.length : Int) rest s.length s x [] rfl (by simpa using hn) hs (by simp) (by simp)
  simp only [List.nil_append] at q1
  rw [h0,if_pos (by simp <;> omega),q1]
  simp only [Option.bind_eq_bind,Option.bind_some]
  have hl := q2.length_eq
  simp only [List.length_append,List.length_cons,List.length_nil] at hl hn
  have e : (s ++ x :: rest).length = (out ++ rest).length := by simp; omega
  rw [zi (by omega) (by omega),e,show (s.length : Int) + 1 = (out.length : Int) from by omega]
  obtain ⟨o2,r1,r2,r3⟩ := ih out (by simp <;> omega) q3
  refine ⟨o2,r1,r2.trans ?_,r3⟩
  have := q2.append_right rest
  simpa using this
theorem qbd (hc : ∀ x y,∃ c,cmp x y = some c ∧ (c < 0 ↔ ¬ le y x)) (ht : ∀ x y,¬ le y x → le x y) (htr : ∀ x y z,le x y → le y z → le x z)
  {L2 : Int × Int × Int × Int × List α → Option (List α)}
  (h2 : ∀ a b i j data,L2 (a,b,i,j,data) = if decide (j > a) then q9 data j >>= fun x3 => q9 data (IntKind.i64.wrap (j - (1 : Int))) >>= fun x5 => cmp x3 x5 >>= fun v7 =>
   if decide (v7 < (0 : Int)) then q9 (data.set j.toNat x5) (IntKind.i64.wrap (j - (1 : Int))) >>= fun x10 => L2 (a,b,i,IntKind.i64.wrap (j - (1 : Int)),(data.set j.toNat x5).set (IntKind.i64.wrap (j - (1 : Int))).toNat x3)
   else some data else some data)
  {L0 : Int × Int × Int × List α → Option (List α)}
  (h0 : ∀ a b i data,L0 (a,b,i,data) = if decide (i < b) then L2 (a,b,i,i,data) >>= fun v3 => L0 (a,b,IntKind.i64.wrap (i + (1 : Int)),v3) else some data)
  {I : Int → Int → List α → Option (List α)} (hI : ∀ a b d,I a b d = L0 (a,b,IntKind.i64.wrap (a + (1 : Int)),d) >>= fun v2 => some v2)
  (d : List α) (hn : d.length < 2 ^ 30) : Tot (I 0 (d.length : Int) d) (fun out => out.Perm d ∧ out.Pairwise le) := by
 rw [hI,zi (by omega) (by omega)]
 cases d with
 | nil =>
  rw [h0,if_neg (by simp)]
  exact ⟨[],rfl,.refl _,.nil⟩
 | cons x r =>
  obtain ⟨out,q1,q2,q3⟩ := zeh hc ht htr h2 h0 r [x] (by simpa using hn) (by simp)
  have e : L0 (0,((x :: r).length : Int),0 + 1,x :: r) = some out := by simpa using q1
  rw [e]
  exact ⟨out,rfl,by simpa using q2,q3⟩
end
end Go.Proofs.YtkbgphcebakcnaaGreat
