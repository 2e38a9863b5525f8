/-
  What ends, and with what: rules.
-/
import Derived.Test.YtllckneefjgafaaGreatDoorVaf
set_option linter.unusedSimpArgs false
set_option linter.unusedVariables false
namespace Go.Proofs.YtllckneefjgafaaGreatDoor
open Go Go.Gm
def Tot {α : Type} (o : Option α) (Q : α → Prop) : Prop := ∃ r,o = some r ∧ Q r
theorem Tot.ret {α : Type} {a : α} {Q : α → Prop} (h : Q a) : Tot (some a) Q := ⟨a,rfl,h⟩
theorem Tot.bind {α β : Type} {o : Option α} {f : α → Option β} {P : α → Prop} {Q : β → Prop} (h : Tot o P) (k : ∀ x,P x → Tot (f x) Q) : Tot (o >>= f) Q := by
 obtain ⟨x,rfl,hx⟩ := h
 exact k x hx
theorem Tot.go {α β : Type} {o : Option α} {f : α → Option β} {a : α} {Q : β → Prop} (h : o = some a) (k : Tot (f a) Q) : Tot (o >>= f) Q := by
 subst h
 exact k
theorem Tot.need {α : Type} {c : Prop} [Decidable c] {a : Option α} {Q : α → Prop} (hc : c) (h : Tot a Q) : Tot (if c then a else none) Q := by
 rw [if_pos hc]
 exact h
theorem Tot.mono {α : Type} {o : Option α} {P Q : α → Prop} (h : Tot o P) (k : ∀ x,P x → Q x) : Tot o Q := by
 obtain ⟨x,h1,h2⟩ := h
 exact ⟨x,h1,k x h2⟩
theorem Tot.get {α : Type} {l : List α} {i : Int} (h1 : 0 ≤ i) (h2 : i < (l.length : Int)) : Tot (ze l i) (fun x => l[i.toNat]? = some x ∧ x ∈ l) := by
 have h3 : i.toNat < l.length := by omega
 refine ⟨l[i.toNat], ?_,by simp [h3],List.getElem_mem h3⟩
 unfold ze
 rw [if_pos h1]
 simp [h3]
theorem Tot.ji {α : Type} {l : List α} {lo hi : Int} (h1 : 0 ≤ lo) (h2 : lo ≤ hi) (h3 : hi ≤ (l.length : Int)) : Tot (Gm.ji l lo hi) (fun r => r = (l.take hi.toNat).drop lo.toNat ∧ (r.length : Int) = hi - lo) := by
 refine ⟨(l.take hi.toNat).drop lo.toNat, ?_,rfl, ?_⟩
 ·unfold Gm.ji
  rw [if_pos ⟨⟨h1,by omega⟩,by omega,by omega⟩]
 ·simp only [List.length_drop,List.length_take]; omega
theorem Tot.len {α : Type} {l : List α} {o : Option α} {i : Nat} (h : o = ze l (i : Int)) (hi : i < l.length) : o = some l[i] := by
 subst h
 unfold ze
 simp [hi]
end Go.Proofs.YtllckneefjgafaaGreatDoor
