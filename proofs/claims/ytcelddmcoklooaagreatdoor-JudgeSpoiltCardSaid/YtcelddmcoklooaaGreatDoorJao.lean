/-
  The law JudgeSpoilt, on plain data.
-/
import Derived.Test.YtcelddmcoklooaaGreatDoorJan
set_option linter.unusedSimpArgs false
set_option linter.unusedVariables false
namespace Go.Proofs.YtcelddmcoklooaaGreatDoor
open Go Go.Gm
variable {k q a b c d : Int}
def zq (B : Bytes) (x y : Int) : Bytes := (B.take y.toNat).drop x.toNat
theorem qed (B : Bytes) (x y : Int) (h : 0 ≤ x ∧ x ≤ y ∧ y ≤ (B.length : Int)) : xq B x y = some (zq B x y) := by
 obtain ⟨r,h1,h2,_⟩ := Tot.xq h.1 h.2.1 h.2.2
 rw [h1,h2]
 rfl
theorem qxa (B : Bytes) (h : 0 ≤ a ∧ a ≤ b ∧ b ≤ c ∧ c ≤ d ∧ d ≤ (B.length : Int)) : q41 B (ins q a b c d) = some (decide (zq B a b = zq B c d)) := by
 unfold q41
 rw [nums]
 simp only [Option.bind_eq_bind,Option.bind_some,l1]
 rw [q2o.eq_1,if_pos (by simp),g0]
 obtain ⟨z,hz⟩ := qbo (k := 3) (q := q) (a := a) (b := b) (c := c) (d := d) (.inl rfl)
 simp only [Option.bind_eq_bind,Option.bind_some,hz,spL,if_pos]
 have s1 := qed B a b (by omega)
 have s2 := qed B c d (by omega)
 rw [l2,q23.eq_1,if_pos (by simp),g0]
 simp only [Option.bind_eq_bind,Option.bind_some,g0,s1]
 rw [if_neg (by simp),w1,q23.eq_1,if_pos (by simp),g1]
 simp only [Option.bind_eq_bind,Option.bind_some,g0,s1,s2]
 by_cases e : zq B a b = zq B c d
 ·rw [if_neg (by simp [e]),w2,q23.eq_1,if_neg (by simp)]
  simp only [Option.bind_some]
  rw [q2o.eq_1,if_neg (by simp)]
  simp [e]
 ·rw [if_pos (by simpa using fun h => e h.symm)]
  simp [e]
theorem qzv (B : Bytes) : q4c B (ins q a b c d) = some true := by
 unfold q4c
 rw [show ((ins q a b c d).stops.l.length : Int) = 2 from rfl]
 rw [q0g.eq_1,if_pos (by simp),show qh (ins q a b c d).stops.l 0 = some (stp a b true) from rfl]
 simp only [Option.bind_eq_bind,Option.bind_some]
 rw [if_pos (by simp),w1,q0g.eq_1,if_pos (by simp),show qh (ins q a b c d).stops.l 1 = some (stp c d false) from rfl]
 simp only [Option.bind_eq_bind,Option.bind_some]
 rw [if_pos (by simp),w2,q0g.eq_1,if_neg (by simp)]
 rfl
theorem zpk (B : Bytes) (h : 0 ≤ a ∧ a ≤ b ∧ b ≤ c ∧ c ≤ d ∧ d ≤ (B.length : Int)) : q55 B j4 [ses k q a b c d] B j4 = some (decide (zq B a b = zq B c d)) := by
 unfold q55
 rw [l1,q33.eq_1,if_pos (by simp),g0]
 simp only [Option.bind_eq_bind,Option.bind_some]
 rw [show ((ses k q a b c d).insts.l.length : Int) = 1 from rfl]
 rw [q3r.eq_1,if_pos (by simp),show qh (ses k q a b c d).insts.l 0 = some (ins q a b c d) from rfl]
 simp only [Option.bind_eq_bind,Option.bind_some,q6w,qxa B h]
 by_cases e : zq B a b = zq B c d
 ·rw [if_neg (by simp [e]),w1,q3r.eq_1,if_neg (by simp)]
  simp only [Option.bind_some]
  rw [q33.eq_1,if_neg (by simp)]
  simp [e]
 ·rw [if_pos (by simp [e])]
  simp [e]
theorem qtz (B : Bytes) : q5p B j4 [ses k q a b c d] B j4 = some true := by
 unfold q5p
 rw [l1,q2m.eq_1,if_pos (by simp),g0]
 simp only [Option.bind_eq_bind,Option.bind_some]
 rw [show ((ses k q a b c d).insts.l.length : Int) = 1 from rfl]
 rw [q2i.eq_1,if_pos (by simp),show qh (ses k q a b c d).insts.l 0 = some (ins q a b c d) from rfl]
 simp only [Option.bind_eq_bind,Option.bind_some,q8i,qzv B]
 rw [if_neg (by simp),w1,q2i.eq_1,if_neg (by simp)]
 simp only [Option.bind_some]
 rw [q2m.eq_1,if_neg (by simp)]
 rfl
theorem zx1 (hk : k = 3 ∨ k = 4) : q5j [ses k q a b c d] = some (decide (k = 4)) := by
 have h1 : q4b (ses k q a b c d) = some (decide (k = 4)) := by
  unfold q4b
  rw [show (ses k q a b c d).insts = ⟨false,[ins q a b c d]⟩ from rfl,nums]
  simp only [Option.bind_eq_bind,Option.bind_some]
  unfold q73 q7m
  rw [show (((⟨([3] : List Int).isEmpty,[3]⟩ : Sl Int).l.length : Nat) : Int) = 1 from rfl]
  rw [q3b.eq_1,if_pos (by simp)]
  simp only [g0,Option.bind_eq_bind,Option.bind_some]
  rcases hk with rfl | rfl
  ·rw [if_pos (by simp)]
   rfl
  ·rw [if_neg (by simp),w1,q3b.eq_1,if_neg (by simp)]
   rfl
 unfold q5j q6x
 rw [l1,q3k.eq_1,if_pos (by simp),g0]
 simp only [Option.bind_eq_bind,Option.bind_some,h1]
 rcases hk with rfl | rfl
 ·rw [if_neg (by simp),w1,q3k.eq_1,if_neg (by simp)]
  rfl
 ·rw [if_pos (by simp)]
  rfl
theorem x0c (B : Bytes) (hB : B.length ≤ 60000) (hk : k = 3 ∨ k = 4) (h : 0 ≤ a ∧ a ≤ b ∧ b ≤ c ∧ c ≤ d ∧ d ≤ q ∧ q ≤ (B.length : Int)) :
  yw B j4 [ses k q a b c d] = some (if zq B a b = zq B c d then (if k = 3 then 0 else 4) else 2) := by
 unfold yw
 rw [zlh B hB hk h]
 simp only [Option.bind_eq_bind,Option.bind_some]
 rw [if_neg (by simp),zpk B (by omega)]
 simp only [Option.bind_some]
 by_cases e : zq B a b = zq B c d
 ·rw [if_neg (by simp [e]),qtz B]
  simp only [Option.bind_some]
  rw [if_neg (by simp),zx1 hk]
  rcases hk with rfl | rfl <;> simp [e]
 ·rw [if_pos (by simp [e]),if_neg e]
theorem zsb (B : Bytes) (hB : B.length ≤ 60000) : q1e ⟨B,j4,⟨true,[]⟩⟩ = some 0 := by
 have h1 : q5y ⟨B,j4,⟨true,[]⟩⟩ = some true := by
  unfold q5y
  rw [qf6 _ (by omega)]
  simp only [Option.bind_eq_bind,Option.bind_some]
  rw [if_neg (by simp; omega),eq0]
  simp only [Option.bind_some]
  rw [if_neg (by simp)]
  rw [show (((⟨true,[]⟩ : Sl T.qb).l.length : Nat) : Int) = 0 from rfl]
  rw [q54.eq_1,if_neg (by simp)]
  rfl
 have h2 : q5n ⟨B,j4,⟨true,[]⟩⟩ ⟨B,j4,⟨true,[]⟩⟩ = some true := by
  unfold q5n
  rw [show (((⟨true,[]⟩ : Sl T.qb).l.length : Nat) : Int) = 0 from rfl,q4x.eq_1,if_neg (by simp)]
  rfl
 have h3 : q6k ⟨B,j4,⟨true,[]⟩⟩ ⟨B,j4,⟨true,[]⟩⟩ = some true := by
  unfold q6k
  rw [show (((⟨true,[]⟩ : Sl T.qb).l.length : Nat) : Int) = 0 from rfl,q4a.eq_1,if_neg (by simp)]
  rfl
 have h4 : q64 ⟨true,[]⟩ = some false := by
  unfold q64 q7e
  rw [show (((⟨true,[]⟩ : Sl T.qb).l.length : Nat) : Int) = 0 from rfl,q4r.eq_1,if_neg (by simp)]
  rfl
 unfold q1e
 rw [h1]
 simp only [Option.bind_eq_bind,Option.bind_some]
 rw [if_neg (by simp),h2]
 simp only [Option.bind_some]
 rw [if_neg (by simp),h3]
 simp only [Option.bind_some]
 rw [if_neg (by simp),h4]
 rfl
theorem q77 (s t : Bytes) : zq (s ++ t ++ s) 0 s.length = s ∧ zq (s ++ t ++ s) (s.length + t.length) (2 * s.length + t.length) = s := by
 unfold zq
 constructor
 ·rw [show (s.length : Int).toNat = s.length by omega,show (0 : Int).toNat = 0 by rfl,List.append_assoc,List.take_left']
  ·rfl
  ·rfl
 ·rw [show ((s.length : Int) + t.length).toNat = (s ++ t).length by simp; omega,List.take_of_length_le (by simp; omega),List.drop_left']
  rfl
theorem q7o (B : Bytes) (x y : Nat) (i : Nat) (h : x + i < y) : (zq B x y)[i]? = B[x + i]? := by
 unfold zq
 rw [show (y : Int).toNat = y by omega,show (x : Int).toNat = x by omega,List.getElem?_drop,List.getElem?_take_of_lt h]
theorem spoilt (s t : Bytes) (i : Nat) (to : UInt8) (hi : i < (s ++ t ++ s).length) (x : UInt8) (hx : (s ++ t ++ s)[i]? = some x) (hne : x ≠ to) (ho : i < s.length ∨ s.length + t.length ≤ i) :
  zq ((s ++ t ++ s).set i to) 0 s.length ≠ zq ((s ++ t ++ s).set i to) (s.length + t.length) (2 * s.length + t.length) := by
 intro e
 obtain ⟨c1,c2⟩ := q77 s t
 have hl : (s ++ t ++ s).length = 2 * s.length + t.length := by simp; omega
 generalize hB : s ++ t ++ s = B at *
 have e1 : ∀ j : Nat,j < s.length → ((B.set i to))[j]? = (B.set i to)[s.length + t.length + j]? := by
  intro j hj
  have h1 := q7o (B.set i to) 0 s.length j (by omega)
  have h2 := q7o (B.set i to) (s.length + t.length) (2 * s.length + t.length) j (by omega)
  simp only [Nat.zero_add] at h1
  rw [← h1,← h2]
  have e' : zq (B.set i to) ((0 : Nat) : Int) (s.length : Nat) = zq (B.set i to) ((s.length + t.length : Nat) : Int) ((2 * s.length + t.length : Nat) : Int) := by
   have : ((2 * s.length + t.length : Nat) : Int) = 2 * s.length + t.length := by omega
   rw [this]
   exact e
  rw [e']
 have e2 : ∀ j : Nat,j < s.length → B[j]? = B[s.length + t.length + j]? := by
  intro j hj
  have h1 := q7o B 0 s.length j (by omega)
  have h2 := q7o B (s.length + t.length) (2 * s.length + t.length) j (by omega)
  simp only [Nat.zero_add] at h1
  rw [← h1,← h2]
  have e' : zq B ((0 : Nat) : Int) (s.length : Nat) = zq B ((s.length + t.length : Nat) : Int) ((2 * s.length + t.length : Nat) : Int) := by
   have : ((2 * s.length + t.length : Nat) : Int) = 2 * s.length + t.length := by omega
   rw [this]
   exact c1.trans c2.symm
  rw [e']
 rcases ho with h | h
 ·have f1 := e1 i h
  have f2 := e2 i h
  rw [List.getElem?_set_self hi,List.getElem?_set_ne (by omega),← f2,hx] at f1
  simp only [Option.some.injEq] at f1
  exact hne f1.symm
 ·obtain ⟨j,rfl⟩ : ∃ j,i = s.length + t.length + j := ⟨i - (s.length + t.length),by omega⟩
  have f1 := e1 j (by omega)
  have f2 := e2 j (by omega)
  rw [List.getElem?_set_self hi,List.getElem?_set_ne (by omega),f2,hx] at f1
  simp only [Option.some.injEq] at f1
  exact hne f1
theorem qdt (s t : Bytes) (i : Nat) (to : UInt8) (x : UInt8) (hx : (s ++ t ++ s)[i]? = some x) (ho : x = to ∨ s.length ≤ i ∧ i < s.length + t.length) :
  zq ((s ++ t ++ s).set i to) 0 s.length = zq ((s ++ t ++ s).set i to) (s.length + t.length) (2 * s.length + t.length) := by
 obtain ⟨c1,c2⟩ := q77 s t
 rcases ho with rfl | ho
 ·have : (s ++ t ++ s).set i x = s ++ t ++ s := by
   apply List.ext_getElem?
   intro j
   by_cases e : i = j
   ·subst e
    rw [List.getElem?_set_self (List.getElem?_eq_some_iff.1 hx).1,hx]
   ·rw [List.getElem?_set_ne e]
  rw [this,c1,c2]
 ·have : ∃ t',t'.length = t.length ∧ (s ++ t ++ s).set i to = s ++ t' ++ s := by
   refine ⟨t.set (i - s.length) to,by simp, ?_⟩
   rw [List.append_assoc,List.set_append_right _ _ (by omega),List.set_append_left _ _ (by omega),List.append_assoc]
  obtain ⟨t',h1,h2⟩ := this
  obtain ⟨d1,d2⟩ := q77 s t'
  rw [h2,← h1,d1,d2]
theorem zm4 (x n : Int) (hn : 0 < n) (hn2 : n ≤ 1000) : ∃ r : Int,q5w x n = some r ∧ 0 ≤ r ∧ r < n := by
 have hw : IntKind.u64.wrap n = n := by
  simp [IntKind.wrap,IntKind.signed,IntKind.bits]
  omega
 have h0 : 0 ≤ IntKind.u64.wrap x := by
  simp [IntKind.wrap,IntKind.signed,IntKind.bits]
  omega
 have h1 : (IntKind.u64.wrap x).tmod n = (IntKind.u64.wrap x) % n := Int.tmod_eq_emod_of_nonneg h0
 have h2 := Int.emod_nonneg (IntKind.u64.wrap x) (show n ≠ 0 by omega)
 have h3 := Int.emod_lt_of_pos (IntKind.u64.wrap x) hn
 refine ⟨(IntKind.u64.wrap x) % n, ?_,h2,h3⟩
 unfold q5w
 rw [hw,if_pos (by omega),h1,q86 (by omega) (by omega)]
theorem zt3 (s t : Bytes) (at_ : Int) (to : UInt8) : q6s s t at_ to = some true := by
 unfold q6s
 by_cases h0 : (((s.length : Int) == (0 : Int)) || ((decide ((s.length : Int) > (20 : Int))) || (decide ((t.length : Int) > (20 : Int))))) = true
 ·rw [if_pos h0]; rfl
 rw [if_neg h0]
 simp only [Bool.or_eq_true,beq_iff_eq,decide_eq_true_eq,not_or] at h0
 obtain ⟨h1,h2,h3⟩ := h0
 have hL : (s ++ t ++ s).length = 2 * s.length + t.length := by simp; omega
 rw [if_pos (by omega),if_pos (by simp; omega)]
 have e1 : IntKind.i64.wrap ((2 : Int) * (s.length : Int)) = 2 * s.length := q86 (by omega) (by omega)
 have e2 : IntKind.i64.wrap (2 * (s.length : Int) + (t.length : Int)) = 2 * s.length + t.length := q86 (by omega) (by omega)
 have e3 : IntKind.i64.wrap ((s.length : Int) + (t.length : Int)) = s.length + t.length := q86 (by omega) (by omega)
 simp only [e1,e2,e3]
 have W : ∀ (B : Bytes) (k : Int),B.length = 2 * s.length + t.length → (k = 3 ∨ k = 4) → yw B j4 [ses k (2 * s.length + t.length) 0 s.length (s.length + t.length) (2 * s.length + t.length)] =
   some (if zq B 0 s.length = zq B (s.length + t.length) (2 * s.length + t.length) then (if k = 3 then 0 else 4) else 2) := fun B k hB hk => x0c B (by omega) hk (by omega)
 obtain ⟨c1,c2⟩ := q77 s t
 rw [W _ 3 hL (.inl rfl),c1,c2]
 simp only [if_true,Option.bind_eq_bind,Option.bind_some]
 have hlow := zm4 at_ ((s ++ t ++ s).length : Int) (by omega) (by omega)
 obtain ⟨v,hv,hv0,hv1⟩ := hlow
 rw [hv]
 simp only [Option.bind_some]
 obtain ⟨i,rfl⟩ : ∃ i : Nat,v = i := ⟨v.toNat,by omega⟩
 have hi : i < (s ++ t ++ s).length := by omega
 rw [zad hi]
 have hx : (s ++ t ++ s)[i]? = some (s ++ t ++ s)[i] := List.getElem?_eq_getElem hi
 generalize (s ++ t ++ s)[i] = x at hx
 simp only [Option.bind_some,Int.toNat_natCast]
 have hS : ((s ++ t ++ s).set i to).length = 2 * s.length + t.length := by rw [List.length_set,hL]
 have hN := zsb ((s ++ t ++ s).set i to) (by omega)
 have W3 := W _ 3 hS (.inl rfl)
 have W4 := W _ 4 hS (.inr rfl)
 by_cases hxt : x = to
 ·subst hxt
  have hu := qdt s t i x x hx (.inl rfl)
  rw [if_pos hu] at W3 W4
  rw [if_pos (by simp),W3,W4]
  simp only [Option.bind_some]
  rw [if_neg (by decide),hN]
  rfl
 ·have hne : ¬ ((((x.toNat : Int) == (to.toNat : Int))) = true) := by
   simp only [beq_iff_eq]
   intro h
   exact hxt (UInt8.toNat_inj.1 (by omega))
  rw [if_neg hne]
  by_cases hg : (s.length : Int) ≤ i
  ·rw [if_pos (by simpa using hg)]
   by_cases hg2 : (i : Int) < s.length + t.length
   ·have hu := qdt s t i to x hx (.inr (by omega))
    rw [if_pos hu] at W3 W4
    rw [W3,W4]
    simp only [Option.bind_some]
    rw [if_neg (by decide),if_pos (by simpa using hg2),if_neg (by decide),hN]
    rfl
   ·have hu := spoilt s t i to hi x hx hxt (.inr (by omega))
    rw [if_neg hu] at W3 W4
    rw [W3,W4]
    simp only [Option.bind_some]
    rw [if_neg (by decide),if_neg (by simpa using hg2),if_neg (by decide),hN]
    rfl
  ·have hu := spoilt s t i to hi x hx hxt (.inl (by omega))
   rw [if_neg hu] at W3 W4
   rw [if_neg (by simpa using hg),W3,W4]
   simp only [Option.bind_some]
   rw [if_neg (by decide),hN]
   rfl
end Go.Proofs.YtcelddmcoklooaaGreatDoor
