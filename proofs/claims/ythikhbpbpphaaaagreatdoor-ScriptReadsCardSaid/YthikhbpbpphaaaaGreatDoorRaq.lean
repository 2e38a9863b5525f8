/-
  Scripts: the document's reader of a line.
-/
import Derived.Test.YthikhbpbpphaaaaGreatDoorRap
set_option linter.unusedSimpArgs false
set_option linter.unusedVariables false
namespace Go.Proofs.YthikhbpbpphaaaaGreatDoor
open Go Go.Gm
theorem q7j (b : Sl UInt8) (k : Nat) (hb : b.l.length ≤ 65536) (h : bad b.l k) : wh (RR b k) = some (0,false,RR b k) := by
 obtain ⟨c,h1,h2⟩ := h
 have hk := ym h1
 unfold wh
 rw [q0n b k 32 hb (by omega)]
 have hx : ¬ b.l[k]? = some 32 := q23 ⟨c,h1,h2⟩ (by decide)
 simp only [Option.bind_eq_bind,Option.bind_some,hx,decide_false,Bool.not_false,if_true,if_false]
theorem z4t {L : Bytes} {k : Nat} (h : bad L k) : zu L k = none := if_neg (q23 h (by decide))
theorem q4x (x : T.qf) (t2 : T.Op) (o : Int) (o2 o3 : Bytes) (o4 : Int) (o5 : Bool) (o6 : Sl T.Sel) (acc : List T.q9) :
  gp (false,x,t2,o,o2,o3,o4,o5,o6,acc) = some (false,x,acc) := by
 rw [gp.eq_1,if_neg (by simp)]
theorem q7u (x : T.qf) (t2 : T.Op) (o : Int) (o2 o3 : Bytes) (o4 : Int) (o5 : Bool) (o6 : Sl T.q9) (acc : List T.Sel) :
  gz (false,x,t2,o,o2,o3,o4,o5,o6,acc) = some (false,x,acc) := by
 rw [gz.eq_1,if_neg (by simp)]
theorem qdv (b : Sl UInt8) (hb : b.l.length ≤ 65536) (t2 : T.Op) (o : Int) (o2 o3 : Bytes) (o4 : Int) (o5 : Bool) (o6 : Sl T.Sel) : ∀ (f k : Nat) (acc : List T.q9),k ≤ b.l.length → b.l.length - k < f → acc.length ≤ k →
  (∀ v j,y9 b.l f k acc = some (v,j) → j ≤ b.l.length ∧ gp (true,RR b k,t2,o,o2,o3,o4,o5,o6,acc) = some (true,RR b j,v)) ∧
  (y9 b.l f k acc = none → ∃ g j v,gp (true,RR b k,t2,o,o2,o3,o4,o5,o6,acc) = some (g,RR b j,v) ∧ j ≤ b.l.length ∧ (g = true → bad b.l j))
 | 0,k,acc,hk,hf,ha => by omega
 | f + 1,k,acc,hk,hf,ha => by
  rw [gp.eq_1,if_pos rfl,q4r b k hk]
  simp only [Option.bind_eq_bind,Option.bind_some,decide_eq_true_eq]
  unfold y9
  by_cases hc : b.l[k]? = some 32
  ·rw [if_pos hc,if_pos hc]
   have n1 := tq b k hb hk
   cases h1 : z8 b.l k with
   | none =>
    simp only
    refine ⟨fun v j e => (by cases e),fun _ => ?_⟩
    obtain ⟨n,g,j,e1,e2,e3⟩ := n1.2 h1
    rw [e1]
    simp only [Option.bind_some]
    cases g with
    | false =>
     rw [if_neg (by simp),if_pos (jv (by omega) (by omega)),q4x]
     exact ⟨_,_,_,rfl,e2,by simp⟩
    | true =>
     rw [if_pos rfl,q7j b j hb (e3 rfl)]
     simp only [Option.bind_some]
     rw [if_neg (by simp),if_pos (jv (by omega) (by omega)),q4x]
     exact ⟨_,_,_,rfl,e2,by simp⟩
   | some m1 =>
    obtain ⟨a,k1⟩ := m1
    have g1 := xe h1
    rw [n1.1 a k1 h1]
    simp only [Option.bind_some,if_true]
    have n2 := tq b k1 hb g1.1
    cases h2 : z8 b.l k1 with
    | none =>
     simp only
     refine ⟨fun v j e => (by cases e),fun _ => ?_⟩
     obtain ⟨n,g,j,e1,e2,e3⟩ := n2.2 h2
     rw [e1]
     simp only [Option.bind_some]
     cases g with
     | false =>
      rw [if_neg (by simp),if_pos (jv (by omega) (by omega)),q4x]
      exact ⟨_,_,_,rfl,e2,by simp⟩
     | true =>
      rw [if_pos rfl]
      obtain ⟨t,i,u1,u2⟩ := (q4b b j hb e2).2 (z4t (e3 rfl))
      rw [u1]
      simp only [Option.bind_some]
      rw [if_pos (jv (by omega) (by omega)),q4x]
      exact ⟨_,_,_,rfl,u2,by simp⟩
    | some m2 =>
     obtain ⟨c,k2⟩ := m2
     have g2 := xe h2
     rw [n2.1 c k2 h2]
     simp only [Option.bind_some,if_true]
     have n3 := q4b b k2 hb g2.1
     cases h3 : zu b.l k2 with
     | none =>
      simp only
      refine ⟨fun v j e => (by cases e),fun _ => ?_⟩
      obtain ⟨t,i,u1,u2⟩ := n3.2 h3
      rw [u1]
      simp only [Option.bind_some]
      rw [if_pos (jv (by omega) (by omega)),q4x]
      exact ⟨_,_,_,rfl,u2,by simp⟩
     | some m3 =>
      obtain ⟨t,k3⟩ := m3
      have g3 := mo h3
      rw [n3.1 t k3 h3]
      simp only [Option.bind_some]
      rw [if_pos (jv (by omega) (by omega))]
      exact qdv b hb t2 o o2 o3 o4 o5 o6 f k3 (acc ++ [T.q9.mk (T.Span.mk a c) t]) (by omega) (by omega) (by simp; omega)
  ·rw [if_neg hc,if_neg hc]
   exact ⟨fun v j e => by (cases e; exact ⟨hk,rfl⟩),fun e => by cases e⟩
theorem qb7 (b : Sl UInt8) (hb : b.l.length ≤ 65536) (t2 : T.Op) (o : Int) (o2 o3 : Bytes) (o4 : Int) (o5 : Bool) (o6 : Sl T.q9) : ∀ (f k : Nat) (acc : List T.Sel),k ≤ b.l.length → b.l.length - k < f → acc.length ≤ k →
  (∀ v j,yl b.l f k acc = some (v,j) → j ≤ b.l.length ∧ gz (true,RR b k,t2,o,o2,o3,o4,o5,o6,acc) = some (true,RR b j,v)) ∧
  (yl b.l f k acc = none → ∃ g j v,gz (true,RR b k,t2,o,o2,o3,o4,o5,o6,acc) = some (g,RR b j,v) ∧ j ≤ b.l.length ∧ (g = true → bad b.l j))
 | 0,k,acc,hk,hf,ha => by omega
 | f + 1,k,acc,hk,hf,ha => by
  rw [gz.eq_1,if_pos rfl,q4r b k hk]
  simp only [Option.bind_eq_bind,Option.bind_some,decide_eq_true_eq]
  unfold yl
  by_cases hc : b.l[k]? = some 32
  ·rw [if_pos hc,if_pos hc]
   have n1 := tq b k hb hk
   cases h1 : z8 b.l k with
   | none =>
    simp only
    refine ⟨fun v j e => (by cases e),fun _ => ?_⟩
    obtain ⟨n,g,j,e1,e2,e3⟩ := n1.2 h1
    rw [e1]
    simp only [Option.bind_some]
    cases g with
    | false =>
     rw [if_neg (by simp),if_pos (jv (by omega) (by omega)),q7u]
     exact ⟨_,_,_,rfl,e2,by simp⟩
    | true =>
     rw [if_pos rfl,q7j b j hb (e3 rfl)]
     simp only [Option.bind_some]
     rw [if_pos (jv (by omega) (by omega)),q7u]
     exact ⟨_,_,_,rfl,e2,by simp⟩
   | some m1 =>
    obtain ⟨a,k1⟩ := m1
    have g1 := xe h1
    rw [n1.1 a k1 h1]
    simp only [Option.bind_some,if_true]
    have n2 := tq b k1 hb g1.1
    cases h2 : z8 b.l k1 with
    | none =>
     simp only
     refine ⟨fun v j e => (by cases e),fun _ => ?_⟩
     obtain ⟨n,g,j,e1,e2,e3⟩ := n2.2 h2
     rw [e1]
     simp only [Option.bind_some]
     rw [if_pos (jv (by omega) (by omega))]
     cases g with
     | false =>
      rw [q7u]
      exact ⟨_,_,_,rfl,e2,by simp⟩
     | true =>
      have hbd := e3 rfl
      have hx : ¬ b.l[j]? = some 32 := q23 hbd (by decide)
      rw [gz.eq_1,if_pos rfl,q4r b j e2]
      simp only [Option.bind_eq_bind,Option.bind_some,decide_eq_true_eq]
      rw [if_neg hx]
      exact ⟨_,_,_,rfl,e2,fun _ => hbd⟩
    | some m2 =>
     obtain ⟨c,k2⟩ := m2
     have g2 := xe h2
     rw [n2.1 c k2 h2]
     simp only [Option.bind_some]
     rw [if_pos (jv (by omega) (by omega))]
     exact qb7 b hb t2 o o2 o3 o4 o5 o6 f k2 (acc ++ [T.Sel.mk a c]) (by omega) (by omega) (by simp; omega)
  ·rw [if_neg hc,if_neg hc]
   exact ⟨fun v j e => by (cases e; exact ⟨hk,rfl⟩),fun e => by cases e⟩
theorem q8l (n : Nat) : 1 ≤ (10 : Int) ^ n := by
 have h : 1 ≤ (10 : Nat) ^ n := Nat.one_le_pow _ _ (by omega)
 have h2 : ((1 : Nat) : Int) ≤ ((10 ^ n : Nat) : Int) := by exact_mod_cast h
 simpa using h2
theorem qa1 : ∀ (r : Bytes) (n : Int),(∀ c ∈ r,zi c = true) → 0 ≤ n → n * 10 ^ r.length ≤ val n r
 | [],n,_,h0 => by simp [val]
 | c :: r,n,hd,h0 => by
  have hc := q3j.mp (hd c (by simp))
  have h := qa1 r (10 * n + ((c.toNat : Int) - 48)) (fun x hx => hd x (by simp [hx])) (by omega)
  have h2 : 10 * n * 10 ^ r.length ≤ (10 * n + ((c.toNat : Int) - 48)) * 10 ^ r.length := Int.mul_le_mul_of_nonneg_right (by omega) (by have := q8l r.length; omega)
  rw [List.length_cons,q3l,show n * (10 * 10 ^ r.length) = 10 * n * 10 ^ r.length by rw [← Int.mul_assoc,Int.mul_comm n 10]]
  simp only [val]
  omega
theorem zkf {L : Bytes} {k : Nat} {c : UInt8} (h1 : L[k]? = some c) (hc : zi c = true) (h2 : ∀ x,L[k + 1]? = some x → zi x = false) : qm L k = [c] := by
 unfold qm
 have hk := ym h1
 rw [List.drop_eq_getElem_cons hk]
 rw [List.getElem?_eq_getElem hk] at h1
 cases h1
 rw [List.takeWhile_cons_of_pos hc]
 cases hr : L.drop (k + 1) with
 | nil => rfl
 | cons x r =>
  rw [List.takeWhile_cons_of_neg]
  rw [h2 x (drop_cons hr).2.1]
  simp
theorem qcd {L : Bytes} {k : Nat} {c : UInt8} (h1 : L[k]? = some c) (hc : c = 48 ∨ c = 49) (h2 : L[k + 1]? = some 10) : zl L k = some ((c.toNat : Int) - 48,k + 1) := by
 have hn : xg L k = false := by
  unfold xg
  rw [h1]
  rcases hc with rfl | rfl <;> decide
 have hbh : behind L k = k := by unfold behind; rw [hn]; rfl
 have hd : qm L k = [c] := zkf h1 (by rcases hc with rfl | rfl <;> decide) (fun x hx => by rw [h2] at hx; cases hx; decide)
 unfold zl
 rw [hbh,hd,hn]
 rw [if_neg (by simp),if_neg (by simp)]
 simp [val]
theorem zj2 {L : Bytes} {k j : Nat} {n : Int} (h : zl L k = some (n,j)) (hn : n = 0 ∨ n = 1) : j = k + 1 ∧ (L[k]? = some 48 ∧ n = 0 ∨ L[k]? = some 49 ∧ n = 1) := by
 unfold zl at h
 split at h
 ·cases h
 rename_i c1
 split at h
 ·cases h
 rename_i c2
 obtain ⟨x,hx,-⟩ := q71 (L := L) (k := behind L k) (by omega)
 have hds : qm L (behind L k) = x :: (qm L (behind L k)).tail := by
  unfold qm
  have hk := ym hx
  rw [List.drop_eq_getElem_cons hk]
  rw [List.getElem?_eq_getElem hk] at hx
  cases hx
  by_cases hd : zi L[behind L k] = true
  ·rw [List.takeWhile_cons_of_pos hd]; rfl
  ·exfalso
   apply c1
   left
   unfold qm
   rw [List.drop_eq_getElem_cons hk,List.takeWhile_cons_of_neg hd]
   rfl
 have hall := q7k zi (L.drop (behind L k))
 have hall2 : ∀ c ∈ qm L (behind L k),zi c = true := hall
 generalize hD : qm L (behind L k) = D at *
 generalize hT : D.tail = tl at *
 subst hds
 have hxd := q3j.mp (hall2 x (by simp))
 have hv := qa1 tl (10 * 0 + ((x.toNat : Int) - 48)) (fun c hc => hall2 c (by simp [hc])) (by omega)
 have hp := q8l tl.length
 have hvv : val 0 (x :: tl) = val (10 * 0 + ((x.toNat : Int) - 48)) tl := rfl
 rw [hvv] at h
 by_cases hneg : xg L k = true
 ·exfalso
  rw [hneg] at h
  simp only [if_true,Option.some.injEq,Prod.mk.injEq] at h
  by_cases hx48 : x = 48
  ·exact c2 ⟨by rw [hx,hx48],Or.inl hneg⟩
  ·have h49 : 1 ≤ (x.toNat : Int) - 48 := by
    have : x.toNat ≠ 48 := fun e => hx48 (UInt8.toNat_inj.mp e)
    omega
   have : 1 * 10 ^ tl.length ≤ (10 * 0 + ((x.toNat : Int) - 48)) * 10 ^ tl.length := Int.mul_le_mul_of_nonneg_right (by omega) (by omega)
   omega
 ·have hneg' : xg L k = false := by simpa using hneg
  have hbh : behind L k = k := by unfold behind; rw [hneg']; rfl
  rw [hneg'] at h
  simp only [Bool.false_eq_true,if_false,Option.some.injEq,Prod.mk.injEq] at h
  by_cases htl : tl = []
  ·subst htl
   rw [hbh] at h hx
   simp [val] at h
   refine ⟨h.2.symm, ?_⟩
   rcases hn with rfl | rfl
   ·left
    exact ⟨by rw [hx]; congr 1; apply UInt8.toNat_inj.mp; show _ = 48; omega,rfl⟩
   ·right
    exact ⟨by rw [hx]; congr 1; apply UInt8.toNat_inj.mp; show _ = 49; omega,rfl⟩
  ·exfalso
   have hlen : 1 ≤ tl.length := by
    cases tl with
    | nil => exact absurd rfl htl
    | cons => simp
   by_cases hx48 : x = 48
   ·exact c2 ⟨by rw [hx,hx48],Or.inr (by simp; omega)⟩
   ·have h49 : 1 ≤ (x.toNat : Int) - 48 := by
     have : x.toNat ≠ 48 := fun e => hx48 (UInt8.toNat_inj.mp e)
     omega
    have h3 : 1 * 10 ^ tl.length ≤ (10 * 0 + ((x.toNat : Int) - 48)) * 10 ^ tl.length := Int.mul_le_mul_of_nonneg_right (by omega) (by omega)
    obtain ⟨n',hn'⟩ : ∃ n',tl.length = n' + 1 := ⟨tl.length - 1,by omega⟩
    have h4 := q8l n'
    rw [hn',q3l] at h3 hv
    omega
end Go.Proofs.YthikhbpbpphaaaaGreatDoor
